/- A part of the proof: what the functions compute. -/
import Derived.Test.YtdkeelhebopgkaaGreatDoorDataA
import Derived.Test.YtdkeelhebopgkaaGreatDoorExtA
set_option linter.all false
open Nat renaming reduceLeDiff → iQ,reduceEqDiff → iR,reduceAdd → iU,reduceSub → iV,reduceBEq → iW,reduceMul → iX,reduceLT → iZ,le_trans → jh,le_of_eq → ji
open Option renaming getD_some → iS
open Int renaming reduceToNat → iT,reduceBEq → iY,reduceLE → jc,reduceLT → jd,reduceEq → je
open Subtype renaming mk → jf
open List renaming replicate → jg
open Go.Abs.AV renaming any → qA
namespace Go.Abs
open Go.Proofs
set_option maxRecDepth 100000
set_option maxHeartbeats 4000000
noncomputable def Sv:DO:=⟨[],[],(zA::zK::zK::zA::zA::zK::ow (nr (nr (nr (zA::[]))))),[oT Syntax.cel],none,none⟩
@[reducible] noncomputable def Vb (X:Syntax→Int→Option Int) (n:Nat):lF Int:=qv Tryz.prog Tryz.f18 n (qT Tryz.prog [.tmp 4] (mK .i64)) (cl:=oS [(18,yR (lK Syntax.cel) (mK .i64) (mK .i64) X)]) (wU:=vR [([0,1,0,1,1],Sv)])
attribute [go_sem] Sv
noncomputable abbrev Sw (v0:Int) (v1:Int) (o0:Syntax):AState:=⟨(qA:: .int .i64 v0:: .ptr 0 0::qA::qA:: .int .i64 v1::oJ (nQ (nQ (nQ (qA::[]))))),[.cells (Syntax.cells o0)],0,[]⟩
abbrev Hx:=Int→Int→Syntax→Option Int
abbrev Hy (X:Syntax→Int→Option Int) (n:Nat) (K:List Kt) (Z:Hx):Prop:= ∀ (v0:Int) (v1:Int) (o0:Syntax),run (Vb X n) K (Sw v0 v1 o0)=Z v0 v1 o0
attribute [go_sem] Sw
noncomputable def D0 (X:Syntax→Int→Option Int) (n:Nat):{B:Hx→Hx // ∀m X0,Hy X n (.lq m [0,1,0,1,1]::[.blk 0,.cut [1,1,1],.at [1,1,1]]) X0→Hy X n (.at [0,0,1,0,1,1]:: .lp m [0,1,0,1,1]::[.blk 0,.cut [1,1,1],.at [1,1,1]]) (B X0)}:=by
 apply jf
 intro m X0 ih v0 v1 o0
 simp (config:={maxSteps:=100000000}) only[go_sem,iU,iV,iQ,iR,iW,iX,iZ,jc,jd,iT,iY,je,Tryz.f18,iS,mixed,ih]
 exact rfl
noncomputable def D1 (X:Syntax→Int→Option Int) (n:Nat):Nat→Hx:=FH ((D0 X n).1)
theorem Pk (X:Syntax→Int→Option Int) {n:Nat} {m:Nat}:D1 X n (m+1)=(D0 X n).1 (D1 X n m):=rfl
theorem Ww (X:Syntax→Int→Option Int) (n:Nat) (m:Nat):Hy X n (.lq m [0,1,0,1,1]::[.blk 0,.cut [1,1,1],.at [1,1,1]]) (D1 X n m):=
 mB (G:=fun m Z=>Hy X n (.lq m [0,1,0,1,1]::[.blk 0,.cut [1,1,1],.at [1,1,1]]) Z) (fun _ _ _=>k7) (fun m _ ih v0 v1 o0=>k8.trans ((D0 X n).2 _ _ ih v0 v1 o0)) m
noncomputable def Oh (X:Syntax→Int→Option Int) (n:Nat):{B:Syntax→Int→Option Int // ∀ (a0:Syntax) (a1:Int),run (Vb X n) [.at []] (ini [(lK Syntax.cel).enc a0,(mK .i64).enc a1] 35)=B a0 a1}:=by
 apply jf
 intro a0 a1
 simp (config:={maxSteps:=100000000}) only[go_sem,iU,iV,iQ,iR,iW,iX,iZ,jc,jd,iT,iY,je,Tryz.f18,iS,mixed,Ww X n]
 exact rfl
noncomputable def Cc:Nat→Syntax→Int→Option Int
 |0,_,_=>none
 |n+1,a0,a1=>(Oh (Cc n) n).1 a0 a1
theorem Sx: ∀ (n:Nat) (a0:Syntax) (a1:Int) (r:Int),Cc n a0 a1=some r→yP Tryz.prog 18 [(lK Syntax.cel).enc a0,(mK .i64).enc a1] (fun v=>v=(mK .i64).enc r)
 |0,_,_,_,h=>by cases h
 |n+1,a0,a1,r,h=>by
  have ZC:=Sx n
  exact Lc (((Oh (Cc n) n).2 a0 a1).trans h) (gd (kV (qS (ZC)) kW) kX) Tryz.func18 ⟨(lK Syntax.cel).nb 0 _,(mK .i64).nb 0 _,trivial⟩ Tryz.ntmps18 Tryz.results18
noncomputable def lX:OL Tf:=(lG (mT (ql Syntax.cel 8 kZ)) (lG (mT (ql (cI .i64) 1 kZ)) (lG (mT (ql (cI .i64) 1 kZ)) nM)))
noncomputable def sx:OL Tf:=(lG (mT (ql Syntax.cel 8 kZ)) (lG (mT (ql (cI .i64) 1 kZ)) (lG (mT (ql (cI .i64) 1 kZ)) nM)))
attribute [go_sem] lX sx
@[reducible] noncomputable def Cq (n:Nat):lF (Tf×Unit):=qv Tryz.prog Tryz.f31 n (EH Tryz.prog [] [] [0,1,2] 3 sx kZ)
noncomputable def Mv (n:Nat):{B:Syntax→Int→Int→Option (Tf×Unit) // ∀ (o0:Syntax) (o1:Int) (o2:Int),run (Cq n) [.ops (pP (Cq n) [0]) ((pP (Cq n) [0]).toList.drop 1),.cut [1],.at [1]] (AState.put {slots:=((lT 0 (lT 1 (lT 2 kZ))).enc (lX.lens ((o0,()),(o1,()),(o2,()),())) ())++jg (15-((lT 0 (lT 1 (lT 2 kZ))).enc (lX.lens ((o0,()),(o1,()),(o2,()),())) ()).length) qA,heap:=(lX.enc (lX.lens ((o0,()),(o1,()),(o2,()),())) ((o0,()),(o1,()),(o2,()),())),low:=(lX.enc (lX.lens ((o0,()),(o1,()),(o2,()),())) ((o0,()),(o1,()),(o2,()),())).length} (some 5) (.raw .nilIface))=B o0 o1 o2}:=by
 apply jf
 intro o0 o1 o2
 simp (config:={maxSteps:=100000000}) only[go_sem,iU,iV,iQ,iR,iW,iX,iZ,jc,jd,iT,iY,je,Tryz.f31,iS,mixed]
 exact rfl
noncomputable def EI:=fu fun n=>(Mv n).1
theorem UH: ∀ (n:Nat) (o0:Syntax) (o1:Int) (o2:Int) (r:(Tf×Unit)),EI n o0 o1 o2=some r→Y0 Tryz.prog (TRet Tryz.prog 31) ((lT 0 (lT 1 (lT 2 kZ))).enc (lX.lens ((o0,()),(o1,()),(o2,()),())) ()) (lX.enc (lX.lens ((o0,()),(o1,()),(o2,()),())) ((o0,()),(o1,()),(o2,()),())) (fun o H'=>o=(X5 sx kZ r).1∧H'=(X5 sx kZ r).2)
 |0,_,_,_,_,h=>by cases h
 |n+1,o0,o1,o2,r,h=>by
  exact Wu (M:=Cq n) (p1:=[]) (b1:=[0,1,2]) (args:=((lT 0 (lT 1 (lT 2 kZ))).enc (lX.lens ((o0,()),(o1,()),(o2,()),())) ())) ⟨kW,kX,rz _,rA _,wh,wk,yz,xZ⟩ Tryz.func31 rfl (by kernel_rfl) (sM (jh (of_decide_eq_true (by kernel_rfl)) (ji (lX.sz _ _).symm)) _ ((lT 0 (lT 1 (lT 2 kZ))).nb (lX.lens ((o0,()),(o1,()),(o2,()),())) ())) (fun x hx=>Bn (jh (of_decide_eq_true (by kernel_rfl)) (ji (lX.sz _ _).symm)) _ (lX.nb _ _ x hx)) Tryz.ntmps31 Tryz.results31 (low:=3) (by rfl) rfl (((Mv n).2 o0 o1 o2).trans h)
noncomputable def EJ:AL T4:=(lM (ue 66 (lK kP.cel)) kZ)
attribute [go_sem] EJ
noncomputable def Rm (F:kP→Option (Unit×T4)):=entX [] nM EJ nM (lM (lK kP.cel) kZ) (fun (b:Unit) (a:T4)=>F a.1)
attribute [go_sem] Rm
@[reducible] noncomputable def X7 (n:Nat):lF (Unit×T4):=qv Tryz.prog Tryz.f32 n (EH Tryz.prog [.cell 2 66] [] [] 0 nM (lM (lK kP.cel) kZ))
noncomputable def Rn (n:Nat):{B:kP→Option (Unit×T4) // ∀ (a0:kP),run (X7 n) [.at []] (s8 EJ nM () (a0,()) 14)=B a0}:=by
 apply jf
 intro a0
 simp (config:={maxSteps:=100000000}) only[go_sem,iU,iV,iQ,iR,iW,iX,iZ,jc,jd,iT,iY,je,Tryz.f32,iS,mixed]
 exact rfl
noncomputable def Vc:=fu fun n=>(Rn n).1
theorem Xg: ∀ (n:Nat) (a0:kP) (r:(Unit×T4)),Vc n a0=some r→SG Tryz.prog 32 EJ nM () (a0,()) nM (lM (lK kP.cel) kZ) r
 |0,_,_,h=>by cases h
 |n+1,a0,r,h=>by
  exact okG (((Rn n).2 a0).trans h) (gd kW kX) Tryz.func32 Tryz.ntmps32 Tryz.results32
@[reducible] noncomputable def UI (n:Nat):lF Str:=qv Tryz.prog Tryz.f183 n (qT Tryz.prog [.tmp 2] (tyK1 207 (zZ cS))) (cut:=UF [([1,1],[0])])
noncomputable def Lz (n:Nat):{B:Str→Option Str // ∀ (a0:Str),run (UI n) [.at []] (ini [nh.enc a0] 4)=B a0}:=by
 apply jf
 intro a0
 simp (config:={maxSteps:=100000000}) only[go_sem,iU,iV,iQ,iR,iW,iX,iZ,jc,jd,iT,iY,je,Tryz.f183,iS,mixed]
 exact rfl
noncomputable def NL:=fu fun n=>(Lz n).1
theorem Sy: ∀ (n:Nat) (a0:Str) (r:Str),NL n a0=some r→yP Tryz.prog 183 [nh.enc a0] (fun v=>v=(tyK1 207 (zZ cS)).enc r)
 |0,_,_,h=>by cases h
 |n+1,a0,r,h=>by
  exact Lc (((Lz n).2 a0).trans h) (gd kW kX) Tryz.func183 ⟨nh.nb 0 _,trivial⟩ Tryz.ntmps183 Tryz.results183
noncomputable def l9:wQ:=(lkAt [] (sub [0,1,0,1,1] ((Tryz.f148.body).getD .skip)))
theorem yA:l9.ps.size=1∧ ∀j:Int,oP l9.js j=none:=⟨by kernel_rfl,fun j=>(by show oP [] j=none;unfold oP lookJ;cases (j==0)<;>rfl)⟩
noncomputable def lg:OL TQ:=(lG (ogL0 l9 (alZ (lT 1 (Ph 7 kZ)))) (lG (mT (u9 2 kZ)) (lG Gr nM)))
noncomputable def mP:OL Tt:=(lG (ogL l9 (alZ (lT 1 (Ph 7 kZ)))) (lG (mT (u9 2 kZ)) (lG Gr nM)))
attribute [go_sem] lg mP
noncomputable def lR (n:Nat):lF (Tt×(Bool×Unit)) where
 body:= .seq (Zt (sub [0,1,0,1,1] ((Tryz.f148.body).getD .skip))) (bdyC (sub [0,1,0,1,1] ((Tryz.f148.body).getD .skip)))
 P:=Tryz.prog
 cl:=oS []
 cd:=Pd []
 wU:=vR []
 cut:=UF []
 n:=n
 out:=(fun _=>none)
 qT:=outRd [] [] [0,1,2] 3 mP
 Ab:=mU []
theorem Kk (n:Nat):(lR n).P=Tryz.prog∧(lR n).cl=oS []∧(lR n).cd=Pd []∧(lR n).wU=vR []∧(lR n).cut=UF []∧(lR n).n=n∧(lR n).out=(fun _=>none)∧(lR n).qT=outRd [] [] [0,1,2] 3 mP∧(lR n).Ab=mU []:=⟨rfl,rfl,rfl,rfl,rfl,rfl,rfl,rfl,rfl⟩
theorem Kl (n:Nat):(lR n).body= .seq (Zt (sub [0,1,0,1,1] ((Tryz.f148.body).getD .skip))) (bdyC (sub [0,1,0,1,1] ((Tryz.f148.body).getD .skip))):=rfl
theorem Km:Code.seq (Zt (sub [0,1,0,1,1] ((Tryz.f148.body).getD .skip))) (bdyC (sub [0,1,0,1,1] ((Tryz.f148.body).getD .skip)))=Code.seq l9.assign l9.body:=by kernel_rfl
attribute [go_sem] Kk Kl yA
noncomputable def Cd (n:Nat):{B:Str→T5→Option (Tt×(Bool×Unit)) // ∀ (a0:Str) (o0:T5),run (lR n) [.at [0],.rb,.at [1],.rd] {slots:=Pb ((alZ (lT 1 (Ph 7 kZ))).enc (lg.lens ((),(),o0,())) ()) [5] ((lM nh kZ).enc (lg.lens ((),(),o0,())) (a0,())),heap:=(lg.enc (lg.lens ((),(),o0,())) ((),(),o0,())),low:=(lg.enc (lg.lens ((),(),o0,())) ((),(),o0,())).length}=B a0 o0}:=by
 apply jf
 intro a0 o0
 simp (config:={maxSteps:=100000000}) only[go_sem,iU,iV,iQ,iR,iW,iX,iZ,jc,jd,iT,iY,je,Tryz.f148,iS,mixed]
 exact rfl
noncomputable def Dz:=fu fun n=>(Cd n).1
theorem JJ: ∀ (n:Nat) (a0:Str) (o0:T5) (r:(Tt×(Bool×Unit))),Dz n a0 o0=some r→Y0 Tryz.prog (R8 Tryz.prog) ((lM nh kZ).enc (lg.lens ((),(),o0,())) (a0,())) (lg.enc (lg.lens ((),(),o0,())) ((),(),o0,())) (fun o H'=>o= .ret (s9 ((lM pQ kZ).enc (mP.lens r.1) r.2))∧H'=mP.enc (mP.lens r.1) r.1)
 |0,_,_,_,h=>by cases h
 |n+1,a0,o0,r,h=>by
  exact fnT_run (M:=lR n) (lk:=l9) (slots:=((alZ (lT 1 (Ph 7 kZ))).enc (lg.lens ((),(),o0,())) ())) ⟨kW,kX,rz _,rA _,wh,wk,yz,xZ⟩ Km (by kernel_rfl) ⟨by kernel_rfl,by kernel_rfl⟩ rfl (sM (jh (of_decide_eq_true (by kernel_rfl)) (ji (lg.sz _ _).symm)) _ ((lM nh kZ).nb _ _)) (fun x hx=>Bn (jh (of_decide_eq_true (by kernel_rfl)) (ji (lg.sz _ _).symm)) _ (lg.nb _ _ x hx)) (fun e σ hs=>outRd_ok (js:=[]) (pos:=[]) (base:=[0,1,2]) (low:=3) (os:=mP) (e:=e) (σ:=σ) (r:=r) (by rfl) hs) (((Cd n).2 a0 o0).trans h)
@[reducible] noncomputable def lexer_class_m (n:Nat):lF Int:=qv Tryz.prog Tryz.f156 n (qT Tryz.prog [.tmp 2] (mK .i64))
noncomputable def Vd (n:Nat):{B:Int→Option Int // ∀ (a0:Int),run (lexer_class_m n) [.at []] (ini [(mK .u8).enc a0] 28)=B a0}:=by
 apply jf
 intro a0
 simp (config:={maxSteps:=100000000}) only[go_sem,iU,iV,iQ,iR,iW,iX,iZ,jc,jd,iT,iY,je,Tryz.f156,iS,mixed]
 exact rfl
noncomputable def GL:=fu fun n=>(Vd n).1
theorem D2: ∀ (n:Nat) (a0:Int) (r:Int),GL n a0=some r→yP Tryz.prog 156 [(mK .u8).enc a0] (fun v=>v=(mK .i64).enc r)
 |0,_,_,h=>by cases h
 |n+1,a0,r,h=>by
  exact Lc (((Vd n).2 a0).trans h) (gd kW kX) Tryz.func156 ⟨(mK .u8).nb 0 _,trivial⟩ Tryz.ntmps156 Tryz.results156
end Go.Abs
namespace Go.Abs
open Go.Proofs
set_option maxRecDepth 100000
set_option maxHeartbeats 4000000
noncomputable def NM:DO:=⟨[],[],(zK::nr (nr (zK::zK::zA::zK::DR (ow (nr (nr (nr (zA::[])))))))),[oA nq],none,none⟩
noncomputable def NN:DO:=⟨[],[],(zK::nr (nr (zK::zK::zK::zK::DR (ow (nr (nr (nr (zA::[])))))))),[oA nq],none,none⟩
noncomputable def NO:DO:=⟨[],[],(zK::nr (nr (zK::zK::zA::zK::DR (ow (nr (nr (nr (zA::[])))))))),[oA nq],none,none⟩
noncomputable def NP:DO:=⟨[],[],(zK::zA::zA::zK::zK::zK::zK::DR (ow (ow (zA::zA::zA::[])))),[],none,none⟩
@[reducible] noncomputable def tB (n:Nat):lF (List Str):=qv Tryz.prog Tryz.f186 n (qT Tryz.prog [.tmp 2] (nj nq)) (wU:=vR [([0,0,1,1,1,1,0,1,0,0,0,1,1,1,1,1,1,1,1,1,1,1,1],NM),([0,0,1,1,1,1,1,1,1,1,1,1,1,1],NN),([0,0,1,1,1,1,1,1,1,1,1,1],NO),([0,1,0,1,1,1,1],NP)])
attribute [go_sem] NM NN NO NP
noncomputable abbrev Hz (v0:Str) (v1:Int) (v2:Int) (r0:List Str) (c0:Nat):AState:=⟨(.str (sb v0)::nQ (nQ (.acc 0 c0:: .int .i64 v1::qA:: .int .i64 v2::DQ (oJ (nQ (nQ (nQ (qA::[])))))))),[.acc false 1 (mp mo r0)],0,[]⟩
abbrev Ae (m2:Nat):List Kt:=[.blk 6,.cut [1,1,1,1,1,0,1,0,0,0,1,1,1,1,1,1,1,1,1,1,1,1],.at [1,1,1,1,1,0,1,0,0,0,1,1,1,1,1,1,1,1,1,1,1,1],.blk 5,.lp m2 [0,0,1,1,1,1,1,1,1,1,1,1,1,1],.blk 4,.cut [1,1,1,1,1,1,1,1,1,1,1,1,1],.at [1,1,1,1,1,1,1,1,1,1,1,1,1]]
abbrev DA:=Str→Int→Int→(List Str)→Option (List Str)
abbrev HA (n:Nat) (K:List Kt) (Z:DA):Prop:= ∀ (v0:Str) (v1:Int) (v2:Int) (r0:List Str) (c0:Nat),c0=r0.length→run (tB n) K (Hz v0 v1 v2 r0 c0)=Z v0 v1 v2 r0
noncomputable abbrev HB (v0:Str) (v1:Int) (v2:Int) (v3:Int) (r0:List Str) (c0:Nat):AState:=⟨(.str (sb v0)::nQ (nQ (.acc 0 c0:: .int .i64 v1:: .int .i64 v2:: .int .i64 v3::DQ (oJ (nQ (nQ (nQ (qA::[])))))))),[.acc false 1 (mp mo r0)],0,[]⟩
abbrev uh:List Kt:=[.blk 4,.cut [1,1,1,1,1,1,1,1,1,1,1,1,1],.at [1,1,1,1,1,1,1,1,1,1,1,1,1]]
abbrev uj:=Str→Int→Int→Int→(List Str)→Option (List Str)
abbrev Af (n:Nat) (K:List Kt) (Z:uj):Prop:= ∀ (v0:Str) (v1:Int) (v2:Int) (v3:Int) (r0:List Str) (c0:Nat),c0=r0.length→run (tB n) K (HB v0 v1 v2 v3 r0 c0)=Z v0 v1 v2 v3 r0
noncomputable abbrev HC (v0:Str) (v1:Int) (v2:Int) (r0:List Str) (c0:Nat):AState:=⟨(.str (sb v0)::nQ (nQ (.acc 0 c0:: .int .i64 v1::qA:: .int .i64 v2::DQ (oJ (nQ (nQ (nQ (qA::[])))))))),[.acc false 1 (mp mo r0)],0,[]⟩
abbrev Ag:List Kt:=[.blk 2,.cut [1,1,1,1,1,1,1,1,1,1,1],.at [1,1,1,1,1,1,1,1,1,1,1]]
abbrev DB:=Str→Int→Int→(List Str)→Option (List Str)
abbrev HD (n:Nat) (K:List Kt) (Z:DB):Prop:= ∀ (v0:Str) (v1:Int) (v2:Int) (r0:List Str) (c0:Nat),c0=r0.length→run (tB n) K (HC v0 v1 v2 r0 c0)=Z v0 v1 v2 r0
noncomputable abbrev NQ (v0:Str) (v1:Int) (v2:Int) (v3:Int) (v4:Int):AState:=⟨(.str (sb v0)::qA::qA:: .int .i64 v1:: .int .i64 v2:: .int .u8 v3:: .int .i64 v4::DQ (oJ (oJ (qA::qA::qA::[])))),[],0,[]⟩
abbrev DC:=Str→Int→Int→Int→Int→Option (List Str)
abbrev DD (n:Nat) (K:List Kt) (Z:DC):Prop:= ∀ (v0:Str) (v1:Int) (v2:Int) (v3:Int) (v4:Int),run (tB n) K (NQ v0 v1 v2 v3 v4)=Z v0 v1 v2 v3 v4
attribute [go_sem] Hz Ae HB uh HC Ag NQ
noncomputable def HE (n:Nat):{B:uj→DA→DA // ∀m2 X2 m X0,Af n (.lq m2 [0,0,1,1,1,1,1,1,1,1,1,1,1,1]::uh) X2→HA n (.lq m [0,0,1,1,1,1,0,1,0,0,0,1,1,1,1,1,1,1,1,1,1,1,1]::Ae m2) X0→ ∀ (v0:Str) (v1:Int) (v2:Int) (r0:List Str),run (tB n) (.at [0,0,0,1,1,1,1,0,1,0,0,0,1,1,1,1,1,1,1,1,1,1,1,1]:: .lp m [0,0,1,1,1,1,0,1,0,0,0,1,1,1,1,1,1,1,1,1,1,1,1]::Ae m2) (Hz v0 v1 v2 r0 (r0.length))=B X2 X0 v0 v1 v2 r0}:=by
 apply jf
 intro m2 X2 m X0 h2 ih v0 v1 v2 r0
 simp (config:={maxSteps:=100000000}) only[go_sem,iU,iV,iQ,iR,iW,iX,iZ,jc,jd,iT,iY,je,Tryz.f186,iS,mixed,h2,ih]
 exact rfl
noncomputable def HF (n:Nat) (X2:uj):Nat→DA:=FH ((HE n).1 X2)
theorem strings_Fields_l1_s {n:Nat} (X2:uj) {m:Nat}:HF n X2 (m+1)=(HE n).1 X2 (HF n X2 m):=rfl
theorem Sz (n:Nat) {m2:Nat} {X2} (h2:Af n (.lq m2 [0,0,1,1,1,1,1,1,1,1,1,1,1,1]::uh) X2) (m:Nat):HA n (.lq m [0,0,1,1,1,1,0,1,0,0,0,1,1,1,1,1,1,1,1,1,1,1,1]::Ae m2) (HF n X2 m):=
 mB (G:=fun m Z=>HA n (.lq m [0,0,1,1,1,1,0,1,0,0,0,1,1,1,1,1,1,1,1,1,1,1,1]::Ae m2) Z) (fun _ _ _ _ _ _=>k7) (fun m _ ih=>by
  intro v0 v1 v2 r0 c0 ec0
  subst ec0
  rw[k8]
  exact (HE n).2 _ _ _ _ h2 ih v0 v1 v2 r0) m
noncomputable def HG (n:Nat):{B:uj→uj // ∀m X0,Af n (.lq m [0,0,1,1,1,1,1,1,1,1,1,1,1,1]::uh) X0→ ∀ (v0:Str) (v1:Int) (v2:Int) (v3:Int) (r0:List Str),run (tB n) (.at [0,0,0,1,1,1,1,1,1,1,1,1,1,1,1]:: .lp m [0,0,1,1,1,1,1,1,1,1,1,1,1,1]::uh) (HB v0 v1 v2 v3 r0 (r0.length))=B X0 v0 v1 v2 v3 r0}:=by
 apply jf
 intro m X0 ih v0 v1 v2 v3 r0
 simp (config:={maxSteps:=100000000}) only[go_sem,iU,iV,iQ,iR,iW,iX,iZ,jc,jd,iT,iY,je,Tryz.f186,iS,mixed,Sz n ih,ih]
 exact rfl
noncomputable def HH (n:Nat):Nat→uj:=FH ((HG n).1)
theorem strings_Fields_l2_s {n:Nat} {m:Nat}:HH n (m+1)=(HG n).1 (HH n m):=rfl
theorem D3 (n:Nat) (m:Nat):Af n (.lq m [0,0,1,1,1,1,1,1,1,1,1,1,1,1]::uh) (HH n m):=
 mB (G:=fun m Z=>Af n (.lq m [0,0,1,1,1,1,1,1,1,1,1,1,1,1]::uh) Z) (fun _ _ _ _ _ _ _=>k7) (fun m _ ih=>by
  intro v0 v1 v2 v3 r0 c0 ec0
  subst ec0
  rw[k8]
  exact (HG n).2 _ _ ih v0 v1 v2 v3 r0) m
noncomputable def HI (n:Nat):{B:DB→DB // ∀m X0,HD n (.lq m [0,0,1,1,1,1,1,1,1,1,1,1]::Ag) X0→ ∀ (v0:Str) (v1:Int) (v2:Int) (r0:List Str),run (tB n) (.at [0,0,0,1,1,1,1,1,1,1,1,1,1]:: .lp m [0,0,1,1,1,1,1,1,1,1,1,1]::Ag) (HC v0 v1 v2 r0 (r0.length))=B X0 v0 v1 v2 r0}:=by
 apply jf
 intro m X0 ih v0 v1 v2 r0
 simp (config:={maxSteps:=100000000}) only[go_sem,iU,iV,iQ,iR,iW,iX,iZ,jc,jd,iT,iY,je,Tryz.f186,iS,mixed,D3 n,ih]
 exact rfl
noncomputable def HJ (n:Nat):Nat→DB:=FH ((HI n).1)
theorem strings_Fields_l3_s {n:Nat} {m:Nat}:HJ n (m+1)=(HI n).1 (HJ n m):=rfl
theorem Kn (n:Nat) (m:Nat):HD n (.lq m [0,0,1,1,1,1,1,1,1,1,1,1]::Ag) (HJ n m):=
 mB (G:=fun m Z=>HD n (.lq m [0,0,1,1,1,1,1,1,1,1,1,1]::Ag) Z) (fun _ _ _ _ _ _=>k7) (fun m _ ih=>by
  intro v0 v1 v2 r0 c0 ec0
  subst ec0
  rw[k8]
  exact (HI n).2 _ _ ih v0 v1 v2 r0) m
noncomputable def HK (n:Nat):{B:DC→DC // ∀m X0,DD n (.lq m [0,1,0,1,1,1,1]::[.blk 0,.cut [1,1,1,1,1],.at [1,1,1,1,1]]) X0→DD n (.at [0,0,1,0,1,1,1,1]:: .lp m [0,1,0,1,1,1,1]::[.blk 0,.cut [1,1,1,1,1],.at [1,1,1,1,1]]) (B X0)}:=by
 apply jf
 intro m X0 ih v0 v1 v2 v3 v4
 simp (config:={maxSteps:=100000000}) only[go_sem,iU,iV,iQ,iR,iW,iX,iZ,jc,jd,iT,iY,je,Tryz.f186,iS,mixed,D3 n,Kn n,ih]
 exact rfl
noncomputable def HL (n:Nat):Nat→DC:=FH ((HK n).1)
theorem strings_Fields_l4_s {n:Nat} {m:Nat}:HL n (m+1)=(HK n).1 (HL n m):=rfl
theorem SA (n:Nat) (m:Nat):DD n (.lq m [0,1,0,1,1,1,1]::[.blk 0,.cut [1,1,1,1,1],.at [1,1,1,1,1]]) (HL n m):=
 mB (G:=fun m Z=>DD n (.lq m [0,1,0,1,1,1,1]::[.blk 0,.cut [1,1,1,1,1],.at [1,1,1,1,1]]) Z) (fun _ _ _ _ _=>k7) (fun m _ ih v0 v1 v2 v3 v4=>k8.trans ((HK n).2 _ _ ih v0 v1 v2 v3 v4)) m
noncomputable def Pm (n:Nat):{B:Str→Option (List Str) // ∀ (a0:Str),run (tB n) [.at []] (ini [nh.enc a0] 106)=B a0}:=by
 apply jf
 intro a0
 simp (config:={maxSteps:=100000000}) only[go_sem,iU,iV,iQ,iR,iW,iX,iZ,jc,jd,iT,iY,je,Tryz.f186,iS,mixed,D3 n,Kn n,SA n]
 exact rfl
noncomputable def SB:=fu fun n=>(Pm n).1
theorem Wx: ∀ (n:Nat) (a0:Str) (r:(List Str)),SB n a0=some r→yP Tryz.prog 186 [nh.enc a0] (fun v=>v=(nj nq).enc r)
 |0,_,_,h=>by cases h
 |n+1,a0,r,h=>by
  exact Lc (((Pm n).2 a0).trans h) (gd kW kX) Tryz.func186 ⟨nh.nb 0 _,trivial⟩ Tryz.ntmps186 Tryz.results186
@[reducible] noncomputable def UJ (n:Nat):lF Int:=qv Tryz.prog Tryz.f135 n (qT Tryz.prog [.tmp 4] (mK .i64)) (cl:=oS [(175,yR nh (mK .u8) (mK .i64) (Bp n))])
noncomputable def LA (n:Nat):{B:Str→Int→Option Int // ∀ (a0:Str) (a1:Int),run (UJ n) [.at []] (ini [nh.enc a0,(mK .u8).enc a1] 8)=B a0 a1}:=by
 apply jf
 intro a0 a1
 simp (config:={maxSteps:=100000000}) only[go_sem,iU,iV,iQ,iR,iW,iX,iZ,jc,jd,iT,iY,je,Tryz.f135,iS,mixed]
 exact rfl
noncomputable def strings_IndexByte:=fu fun n=>(LA n).1
theorem Ko: ∀ (n:Nat) (a0:Str) (a1:Int) (r:Int),strings_IndexByte n a0 a1=some r→yP Tryz.prog 135 [nh.enc a0,(mK .u8).enc a1] (fun v=>v=(mK .i64).enc r)
 |0,_,_,_,h=>by cases h
 |n+1,a0,a1,r,h=>by
  exact Lc (((LA n).2 a0 a1).trans h) (gd (kV (qS (Hj n)) kW) kX) Tryz.func135 ⟨nh.nb 0 _,(mK .u8).nb 0 _,trivial⟩ Tryz.ntmps135 Tryz.results135
@[reducible] noncomputable def Oi (n:Nat):lF Bool:=qv Tryz.prog Tryz.f238 n (qT Tryz.prog [.tmp 2] pQ)
noncomputable def FM (n:Nat):{B:Int→Option Bool // ∀ (a0:Int),run (Oi n) [.at []] (ini [(mK .i32).enc a0] 17)=B a0}:=by
 apply jf
 intro a0
 simp (config:={maxSteps:=100000000}) only[go_sem,iU,iV,iQ,iR,iW,iX,iZ,jc,jd,iT,iY,je,Tryz.f238,iS,mixed]
 exact rfl
noncomputable def HM:=fu fun n=>(FM n).1
theorem Nb: ∀ (n:Nat) (a0:Int) (r:Bool),HM n a0=some r→yP Tryz.prog 238 [(mK .i32).enc a0] (fun v=>v=pQ.enc r)
 |0,_,_,h=>by cases h
 |n+1,a0,r,h=>by
  exact Lc (((FM n).2 a0).trans h) (gd kW kX) Tryz.func238 ⟨(mK .i32).nb 0 _,trivial⟩ Tryz.ntmps238 Tryz.results238
@[reducible] noncomputable def HN (n:Nat):lF Bool:=qv Tryz.prog Tryz.f136 n (qT Tryz.prog [.tmp 4] pQ)
noncomputable def Ah (n:Nat):{B:Str→Str→Option Bool // ∀ (a0:Str) (a1:Str),run (HN n) [.at []] (ini [nh.enc a0,nh.enc a1] 18)=B a0 a1}:=by
 apply jf
 intro a0 a1
 simp (config:={maxSteps:=100000000}) only[go_sem,iU,iV,iQ,iR,iW,iX,iZ,jc,jd,iT,iY,je,Tryz.f136,iS,mixed]
 exact rfl
noncomputable def Bq:=fu fun n=>(Ah n).1
theorem Hl: ∀ (n:Nat) (a0:Str) (a1:Str) (r:Bool),Bq n a0 a1=some r→yP Tryz.prog 136 [nh.enc a0,nh.enc a1] (fun v=>v=pQ.enc r)
 |0,_,_,_,h=>by cases h
 |n+1,a0,a1,r,h=>by
  exact Lc (((Ah n).2 a0 a1).trans h) (gd kW kX) Tryz.func136 ⟨nh.nb 0 _,nh.nb 0 _,trivial⟩ Tryz.ntmps136 Tryz.results136
noncomputable def GM:DO:=⟨[],[],(zK::nr (zK::ow (ow (nr (nr (nr (zA::[]))))))),[oC [zK,zK,zK,zK,zK],oK,oK,oK],none,none⟩
noncomputable def wV:OL Ta:=(lG (mT (lM nh (lM (mK .i64) (u9 1 (u9 2 (u9 3 kZ)))))) (lG Gr (lG Gr (lG Gr nM))))
noncomputable def wW:OL Ta:=(lG (mT (lM nh (lM (mK .i64) (u9 1 (u9 2 (u9 3 kZ)))))) (lG Gr (lG Gr (lG Gr nM))))
noncomputable def wX:AL TR:=(lM (mK .i64) (lM (mK .i64) (lM (mK .i64) kZ)))
attribute [go_sem] wV wW wX
noncomputable def HO (F:Str→Int→T5→T5→T5→Option Tj):=entX [.arg 0 [],.obj 0 2 [],.obj 0 3 [],.obj 0 4 []] wV (lT 0 kZ) wW wX (fun (b:Ta) (a:Unit)=>F b.1.1 b.1.2.1 b.2.1 b.2.2.1 b.2.2.2.1)
attribute [go_sem] HO
@[reducible] noncomputable def rT (n:Nat):lF Tj:=qv Tryz.prog Tryz.f151 n (EH Tryz.prog [.tmp 2,.tmp 3,.tmp 4] [] [0,1,2,3] 4 wW wX) (wU:=vR [([0,1,0,1],GM)]) (AZ:=mU []) (AY:=mU [])
theorem Qw (n:Nat):nP (rT n) [0,0,0,1,0,0,1,0,1]=true∧nP (rT n) [0,0,1]=true∧nP (rT n) [0,0,1,0,0,1,0,0,1,0,1]=true∧nP (rT n) [0,1,1]=true:=⟨by kernel_rfl,by kernel_rfl,by kernel_rfl,by kernel_rfl⟩
attribute [go_sem] Qw GM
noncomputable abbrev GN (v0:Int) (v1:Str) (v2:Int) (r1:List (Str×Bool)) (r2:List (Str×Bool)) (r3:List (Str×Bool)):AState:=⟨(.ptr 0 0::nQ (.int .i64 v0::oJ (oJ (nQ (nQ (nQ (qA::[]))))))),[.cells [.str (sb v1),.int .i64 v2,.map 1,.map 2,.map 3],.map (mp mcB r1),.map (mp mcB r2),.map (mp mcB r3)],4,[]⟩
abbrev wY:=Int→Str→Int→T5→T5→T5→Option Tj
abbrev wZ (n:Nat) (K:List Kt) (Z:wY):Prop:= ∀ (v0:Int) (v1:Str) (v2:Int) (r1:List (Str×Bool)) (r2:List (Str×Bool)) (r3:List (Str×Bool)),run (rT n) K (GN v0 v1 v2 r1 r2 r3)=Z v0 v1 v2 r1 r2 r3
attribute [go_sem] GN
noncomputable def Br (n:Nat):{B:wY→wY // ∀m X0,wZ n (.lq m [0,1,0,1]::[.blk 0,.cut [1,1],.at [1,1]]) X0→wZ n (.at [0,0,1,0,1]:: .lp m [0,1,0,1]::[.blk 0,.cut [1,1],.at [1,1]]) (B X0)}:=by
 apply jf
 intro m X0 ih v0 v1 v2 r1 r2 r3
 simp (config:={maxSteps:=100000000}) only[go_sem,iU,iV,iQ,iR,iW,iX,iZ,jc,jd,iT,iY,je,Tryz.f151,iS,mixed,ih]
 exact rfl
noncomputable def Bs (n:Nat):Nat→wY:=FH ((Br n).1)
theorem ZY {n:Nat} {m:Nat}:Bs n (m+1)=(Br n).1 (Bs n m):=rfl
theorem Mw (n:Nat) (m:Nat):wZ n (.lq m [0,1,0,1]::[.blk 0,.cut [1,1],.at [1,1]]) (Bs n m):=
 mB (G:=fun m Z=>wZ n (.lq m [0,1,0,1]::[.blk 0,.cut [1,1],.at [1,1]]) Z) (fun _ _ _ _ _ _=>k7) (fun m _ ih v0 v1 v2 r1 r2 r3=>k8.trans ((Br n).2 _ _ ih v0 v1 v2 r1 r2 r3)) m
noncomputable def HP (n:Nat):{B:Str→Int→T5→T5→T5→Option Tj // ∀ (o0:Str) (o1:Int) (o2:T5) (o3:T5) (o4:T5),run (rT n) [.at []] (s8 (lT 0 kZ) wV ((o0,o1,()),o2,o3,o4,()) () 51)=B o0 o1 o2 o3 o4}:=by
 apply jf
 intro o0 o1 o2 o3 o4
 simp (config:={maxSteps:=100000000}) only[go_sem,iU,iV,iQ,iR,iW,iX,iZ,jc,jd,iT,iY,je,Tryz.f151,iS,mixed,Mw n]
 exact rfl
noncomputable def Kp:=fu fun n=>(HP n).1
theorem Pn: ∀ (n:Nat) (o0:Str) (o1:Int) (o2:T5) (o3:T5) (o4:T5) (r:Tj),Kp n o0 o1 o2 o3 o4=some r→SG Tryz.prog 151 (lT 0 kZ) wV ((o0,o1,()),o2,o3,o4,()) () wW wX r
 |0,_,_,_,_,_,_,h=>by cases h
 |n+1,o0,o1,o2,o3,o4,r,h=>by
  exact okG (((HP n).2 o0 o1 o2 o3 o4).trans h) (gd kW kX) Tryz.func151 Tryz.ntmps151 Tryz.results151
@[reducible] noncomputable def L5 (n:Nat):lF Bool:=qv Tryz.prog Tryz.f212 n (qT Tryz.prog [.tmp 2] pQ)
noncomputable def DE (n:Nat):{B:Int→Option Bool // ∀ (a0:Int),run (L5 n) [.at []] (ini [(mK .i64).enc a0] 5)=B a0}:=by
 apply jf
 intro a0
 simp (config:={maxSteps:=100000000}) only[go_sem,iU,iV,iQ,iR,iW,iX,iZ,jc,jd,iT,iY,je,Tryz.f212,iS,mixed]
 exact rfl
noncomputable def strings_shouldUseASCIISet:=fu fun n=>(DE n).1
theorem Ld: ∀ (n:Nat) (a0:Int) (r:Bool),strings_shouldUseASCIISet n a0=some r→yP Tryz.prog 212 [(mK .i64).enc a0] (fun v=>v=pQ.enc r)
 |0,_,_,h=>by cases h
 |n+1,a0,r,h=>by
  exact Lc (((DE n).2 a0).trans h) (gd kW kX) Tryz.func212 ⟨(mK .i64).nb 0 _,trivial⟩ Tryz.ntmps212 Tryz.results212
end Go.Abs
namespace Go.Abs
open Go.Proofs
set_option maxRecDepth 100000
set_option maxHeartbeats 4000000
noncomputable def LB:DO:=⟨[],[],(zA::zA::zA::zK::zK::nr (zA::zA::zT (nj Notation.row)::zK::zK::nr (zT (nj nq)::zK::zK::ow []))),[oK,oA nq],none,none⟩
noncomputable def LC:DO:=⟨[(4,1,true)],[],(zA::zA::zA::zK::zK::nr (zA::zA::zT (nj Notation.row)::zK::zK::ow (nr (zA::zA::zA::[])))),[oK,oA nq],none,none⟩
@[reducible] noncomputable def y8 (n:Nat):lF (List Str):=qv Tryz.prog Tryz.f70 n (qT Tryz.prog [.tmp 2] (nj nq)) (wU:=vR [([0,1,1,0,0,1,1,0,0,1,0,1,1,1],LB),([0,1,0,1,1,1],LC)])
attribute [go_sem] LB LC
noncomputable abbrev Ff (v0:List Notation) (v1:Int) (v2:Int) (v3:List Str) (v4:Int) (v5:Int) (r0:List (Str×Bool)) (r1:List Str) (c1:Nat):AState:=⟨(qA::qA::qA:: .map 0:: .acc 1 c1::nQ (qA::qA:: .l5 false 4 (mp Notation.cells v0):: .int .i64 v1:: .int .i64 v2::nQ (.l5 false 1 (mp mo v3):: .int .i64 v4:: .int .i64 v5::oJ []))),[.map (mp mcB r0),.acc true 1 (mp mo r1)],0,[]⟩
abbrev yd (m2:Nat):List Kt:=[.blk 2,.blk 1,.cut [1,1,1,0,0,1,0,1,1,1],.at [1,1,1,0,0,1,0,1,1,1],.lp m2 [0,1,0,1,1,1],.blk 0,.cut [1,1,1,1],.at [1,1,1,1]]
abbrev A0:=(List Notation)→Int→Int→(List Str)→Int→Int→T5→(List Str)→Option (List Str)
abbrev Fg (n:Nat) (K:List Kt) (Z:A0):Prop:= ∀ (v0:List Notation) (v1:Int) (v2:Int) (v3:List Str) (v4:Int) (v5:Int) (r0:List (Str×Bool)) (r1:List Str) (c1:Nat),c1=r1.length→run (y8 n) K (Ff v0 v1 v2 v3 v4 v5 r0 r1 c1)=Z v0 v1 v2 v3 v4 v5 r0 r1
noncomputable abbrev Fh (v0:List Notation) (v1:Int) (v2:Int) (r0:List (Str×Bool)) (r1:List Str) (c1:Nat):AState:=⟨(qA::qA::qA:: .map 0:: .acc 1 c1::nQ (qA::qA:: .l5 false 4 (mp Notation.cells v0):: .int .i64 v1:: .int .i64 v2::oJ (nQ (qA::qA::qA::[])))),[.map (mp mcB r0),.acc true 1 (mp mo r1)],0,[]⟩
abbrev sy:=(List Notation)→Int→Int→T5→(List Str)→Option (List Str)
abbrev yf (n:Nat) (K:List Kt) (Z:sy):Prop:= ∀ (v0:List Notation) (v1:Int) (v2:Int) (r0:List (Str×Bool)) (r1:List Str) (c1:Nat),c1=r1.length→run (y8 n) K (Fh v0 v1 v2 r0 r1 c1)=Z v0 v1 v2 r0 r1
attribute [go_sem] Ff yd Fh
noncomputable def Fi (n:Nat):{B:sy→A0→A0 // ∀m2 X2 m X0,yf n (.lq m2 [0,1,0,1,1,1]::[.blk 0,.cut [1,1,1,1],.at [1,1,1,1]]) X2→Fg n (.lq m [0,1,1,0,0,1,1,0,0,1,0,1,1,1]::yd m2) X0→ ∀ (v0:List Notation) (v1:Int) (v2:Int) (v3:List Str) (v4:Int) (v5:Int) (r0:List (Str×Bool)) (r1:List Str),run (y8 n) (.at [0,0,1,1,0,0,1,1,0,0,1,0,1,1,1]:: .lp m [0,1,1,0,0,1,1,0,0,1,0,1,1,1]::yd m2) (Ff v0 v1 v2 v3 v4 v5 r0 r1 (r1.length))=B X2 X0 v0 v1 v2 v3 v4 v5 r0 r1}:=by
 apply jf
 intro m2 X2 m X0 h2 ih v0 v1 v2 v3 v4 v5 r0 r1
 simp (config:={maxSteps:=100000000}) only[go_sem,iU,iV,iQ,iR,iW,iX,iZ,jc,jd,iT,iY,je,Tryz.f70,iS,mixed,h2,ih]
 exact rfl
noncomputable def Fj (n:Nat) (X2:sy):Nat→A0:=FH ((Fi n).1 X2)
theorem notation_Symbols_l1_s {n:Nat} (X2:sy) {m:Nat}:Fj n X2 (m+1)=(Fi n).1 X2 (Fj n X2 m):=rfl
theorem Qx (n:Nat) {m2:Nat} {X2} (h2:yf n (.lq m2 [0,1,0,1,1,1]::[.blk 0,.cut [1,1,1,1],.at [1,1,1,1]]) X2) (m:Nat):Fg n (.lq m [0,1,1,0,0,1,1,0,0,1,0,1,1,1]::yd m2) (Fj n X2 m):=
 mB (G:=fun m Z=>Fg n (.lq m [0,1,1,0,0,1,1,0,0,1,0,1,1,1]::yd m2) Z) (fun _ _ _ _ _ _ _ _ _ _=>k7) (fun m _ ih=>by
  intro v0 v1 v2 v3 v4 v5 r0 r1 c1 ec1
  subst ec1
  rw[k8]
  exact (Fi n).2 _ _ _ _ h2 ih v0 v1 v2 v3 v4 v5 r0 r1) m
noncomputable def Fk (n:Nat):{B:sy→sy // ∀m X0,yf n (.lq m [0,1,0,1,1,1]::[.blk 0,.cut [1,1,1,1],.at [1,1,1,1]]) X0→ ∀ (v0:List Notation) (v1:Int) (v2:Int) (r0:List (Str×Bool)) (r1:List Str),run (y8 n) (.at [0,0,1,0,1,1,1]:: .lp m [0,1,0,1,1,1]::[.blk 0,.cut [1,1,1,1],.at [1,1,1,1]]) (Fh v0 v1 v2 r0 r1 (r1.length))=B X0 v0 v1 v2 r0 r1}:=by
 apply jf
 intro m X0 ih v0 v1 v2 r0 r1
 simp (config:={maxSteps:=100000000}) only[go_sem,iU,iV,iQ,iR,iW,iX,iZ,jc,jd,iT,iY,je,Tryz.f70,iS,mixed,Qx n ih,ih]
 exact rfl
noncomputable def Fl (n:Nat):Nat→sy:=FH ((Fk n).1)
theorem notation_Symbols_l2_s {n:Nat} {m:Nat}:Fl n (m+1)=(Fk n).1 (Fl n m):=rfl
theorem Qy (n:Nat) (m:Nat):yf n (.lq m [0,1,0,1,1,1]::[.blk 0,.cut [1,1,1,1],.at [1,1,1,1]]) (Fl n m):=
 mB (G:=fun m Z=>yf n (.lq m [0,1,0,1,1,1]::[.blk 0,.cut [1,1,1,1],.at [1,1,1,1]]) Z) (fun _ _ _ _ _ _ _=>k7) (fun m _ ih=>by
  intro v0 v1 v2 r0 r1 c1 ec1
  subst ec1
  rw[k8]
  exact (Fk n).2 _ _ ih v0 v1 v2 r0 r1) m
noncomputable def Mx (n:Nat):{B:(List Notation)→Option (List Str) // ∀ (a0:(List Notation)),run (y8 n) [.at []] (ini [(nj Notation.row).enc a0] 37)=B a0}:=by
 apply jf
 intro a0
 simp (config:={maxSteps:=100000000}) only[go_sem,iU,iV,iQ,iR,iW,iX,iZ,jc,jd,iT,iY,je,Tryz.f70,iS,mixed,Qy n]
 exact rfl
noncomputable def Po:=fu fun n=>(Mx n).1
theorem UK: ∀ (n:Nat) (a0:(List Notation)) (r:(List Str)),Po n a0=some r→yP Tryz.prog 70 [(nj Notation.row).enc a0] (fun v=>v=(nj nq).enc r)
 |0,_,_,h=>by cases h
 |n+1,a0,r,h=>by
  exact Lc (((Mx n).2 a0).trans h) (gd kW kX) Tryz.func70 ⟨(nj Notation.row).nb 0 _,trivial⟩ Tryz.ntmps70 Tryz.results70
noncomputable def rD:OL (Unit×T0):=(lG (mT (lT 1 kZ)) (lG (mT (ql kN.cel 6 kZ)) nM))
noncomputable def rE:OL (Unit×T0):=(lG (mT (lT 1 kZ)) (lG (mT (ql kN.cel 6 kZ)) nM))
attribute [go_sem] rD rE
@[reducible] noncomputable def Nc (n:Nat):lF TN:=qv Tryz.prog Tryz.f73 n (EH Tryz.prog [] [] [0,1] 2 rE kZ)
noncomputable def EW (n:Nat):{B:kN→Option TN // ∀ (o0:kN),run (Nc n) [.at []] (s8 (lT 0 kZ) rD ((),(o0,()),()) () 8)=B o0}:=by
 apply jf
 intro o0
 simp (config:={maxSteps:=100000000}) only[go_sem,iU,iV,iQ,iR,iW,iX,iZ,jc,jd,iT,iY,je,Tryz.f73,iS,mixed]
 exact rfl
noncomputable def Bt:=fu fun n=>(EW n).1
theorem My: ∀ (n:Nat) (o0:kN) (r:TN),Bt n o0=some r→SD Tryz.prog 73 (lT 0 kZ) rD ((),(o0,()),()) () rE kZ r
 |0,_,_,h=>by cases h
 |n+1,o0,r,h=>by
  exact okD (((EW n).2 o0).trans h) (gd kW kX) Tryz.func73 Tryz.ntmps73 Tryz.results73
@[reducible] noncomputable def sI (n:Nat):lF Token:=qv Tryz.prog Tryz.f56 n (qT Tryz.prog [.cell 2 45] (lK Token.cel)) (AZ:=mU []) (AY:=mU [])
theorem RE (n:Nat):nP (sI n) [0,1]=true:=by kernel_rfl
theorem RF (n:Nat):lS (sI n) [0,1] 3 10=true∧lS (sI n) [0,1] 7 10=true∧lS (sI n) [0,1] 8 10=true∧lS (sI n) [0,1] 9 10=true:=⟨by kernel_rfl,by kernel_rfl,by kernel_rfl,by kernel_rfl⟩
attribute [go_sem] RE RF
noncomputable def IZ (n:Nat):{B:kN→Option Token // ∀ (a0:kN),run (sI n) [.at []] (ini [(zZ kN.cel).enc a0] 13)=B a0}:=by
 apply jf
 intro a0
 simp (config:={maxSteps:=100000000}) only[go_sem,iU,iV,iQ,iR,iW,iX,iZ,jc,jd,iT,iY,je,Tryz.f56,iS,mixed]
 exact rfl
noncomputable def mh:=fu fun n=>(IZ n).1
theorem lZ: ∀ (n:Nat) (a0:kN) (r:Token),mh n a0=some r→yP Tryz.prog 56 [(zZ kN.cel).enc a0] (fun v=>v=(lK Token.cel).enc r)
 |0,_,_,h=>by cases h
 |n+1,a0,r,h=>by
  exact Lc (((IZ n).2 a0).trans h) (gd kW kX) Tryz.func56 ⟨(zZ kN.cel).nb 0 _,trivial⟩ Tryz.ntmps56 Tryz.results56
@[reducible] noncomputable def qV (n:Nat):lF (To×Unit):=qv Tryz.prog Tryz.f191 n (outH Tryz.prog [.tmp 2] 0 nq (rsA 0 (fun (b:To)=>b.1.length) Ke))
noncomputable def GO (n:Nat):{B:Str→List Str→Option (To×Unit) // ∀x xs,run (qV n) [.at []] {slots:=[(nj nq).enc (x::xs)]++jg 7 qA,heap:=[],low:=0}=B x xs}:=by
 apply jf
 intro x xs
 simp (config:={maxSteps:=100000000}) only[go_sem,iU,iV,iQ,iR,iW,iX,iZ,jc,jd,iT,iY,je,Tryz.f191,iS,mixed]
 exact rfl
theorem Oj (n:Nat) (c:Nat):run (qV n) [.at []] {slots:=[.raw (.slice none 0 c)]++jg 7 qA,heap:=[],low:=0}=some (([],()),()):=by simp (config:={maxSteps:=100000000}) only[go_sem,iU,iV,iQ,iR,iW,iX,iZ,jc,jd,iT,iY,je,Tryz.f191,iS,mixed]
theorem Ok (n:Nat) (a:Addr) (c:Nat):run (qV n) [.at []] {slots:=[.raw (.slice (some a) 0 c)]++jg 7 qA,heap:=[],low:=0}=some (([],()),()):=by simp (config:={maxSteps:=100000000}) only[go_sem,iU,iV,iQ,iR,iW,iX,iZ,jc,jd,iT,iY,je,Tryz.f191,iS,mixed]
noncomputable def I0:Nat→(List Str)→Option (To×Unit)
 |0,_=>none
 |_+1,[]=>some (([],()),())
 |n+1,x::xs=>(GO n).1 x xs
theorem Ol: ∀ (n:Nat) (a0:(List Str)) (r:(To×Unit)),I0 n a0=some r→ZW Tryz.prog 191 (((XB (nj nq) L3):GJ Unit _).enc () (a0,())) (vc.enc ()) (fun o H'=>o= .ret (s9 ((rsA 0 (fun (b:To)=>b.1.length) Ke).enc r.1 r.2))∧H'=(wP (Zi true nq) vc).enc r.1)
 |0,_,_,h=>by cases h
 |n+1,[],r,h=>by
  cases h
  exact Zz fun base c=>by
   cases base with
   |none=>exact Dx (M:=qV n) ⟨kW,kX,rz _,rA _,wh,wk,yz,xZ⟩ Tryz.func191 rfl rfl ⟨trivial,trivial⟩ (fun _ h=>by cases h) Tryz.ntmps191 Tryz.results191 (fun σ hs=>outH_ok hs) (Oj n c)
   |some a=>exact Dx (M:=qV n) ⟨kW,kX,rz _,rA _,wh,wk,yz,xZ⟩ Tryz.func191 rfl rfl ⟨trivial,trivial⟩ (fun _ h=>by cases h) Tryz.ntmps191 Tryz.results191 (fun σ hs=>outH_ok hs) (Ok n a c)
 |n+1,x::xs,r,h=>by
  exact Dx (M:=qV n) ⟨kW,kX,rz _,rA _,wh,wk,yz,xZ⟩ Tryz.func191 rfl rfl ⟨(nj nq).nb 0 _,trivial⟩ (vc.nb _ _) Tryz.ntmps191 Tryz.results191 (fun σ hs=>outH_ok hs) (((GO n).2 x xs).trans h)
@[reducible] noncomputable def oO (n:Nat):lF TW:=qv Tryz.prog Tryz.f192 n (outM Tryz.prog [.tmp 2] 0 kO.row (rsA 0 (fun (b:(Te×Unit))=>b.1.length) Ke))
noncomputable def CW (n:Nat):{B:kO→List kO→Option TW // ∀x xs,run (oO n) [.at []] {slots:=[(nj kO.row).enc (x::xs)]++jg 7 qA,heap:=[],low:=0}=B x xs}:=by
 apply jf
 intro x xs
 simp (config:={maxSteps:=100000000}) only[go_sem,iU,iV,iQ,iR,iW,iX,iZ,jc,jd,iT,iY,je,Tryz.f192,iS,mixed]
 exact rfl
theorem Kq (n:Nat) (c:Nat):run (oO n) [.at []] {slots:=[.raw (.slice none 0 c)]++jg 7 qA,heap:=[],low:=0}=some (([],()),()):=by simp (config:={maxSteps:=100000000}) only[go_sem,iU,iV,iQ,iR,iW,iX,iZ,jc,jd,iT,iY,je,Tryz.f192,iS,mixed]
theorem Kr (n:Nat) (a:Addr) (c:Nat):run (oO n) [.at []] {slots:=[.raw (.slice (some a) 0 c)]++jg 7 qA,heap:=[],low:=0}=some (([],()),()):=by simp (config:={maxSteps:=100000000}) only[go_sem,iU,iV,iQ,iR,iW,iX,iZ,jc,jd,iT,iY,je,Tryz.f192,iS,mixed]
noncomputable def D4:Nat→Te→Option TW
 |0,_=>none
 |_+1,[]=>some (([],()),())
 |n+1,x::xs=>(CW n).1 x xs
theorem Ks: ∀ (n:Nat) (a0:Te) (r:TW),D4 n a0=some r→ZW Tryz.prog 192 (((XB (nj kO.row) L3):GJ Unit _).enc () (a0,())) (vc.enc ()) (fun o H'=>o= .ret (s9 ((rsA 0 (fun (b:(Te×Unit))=>b.1.length) Ke).enc r.1 r.2))∧H'=(wP (Zi false kO.row) vc).enc r.1)
 |0,_,_,h=>by cases h
 |n+1,[],r,h=>by
  cases h
  exact Zz fun base c=>by
   cases base with
   |none=>exact Dx (M:=oO n) ⟨kW,kX,rz _,rA _,wh,wk,yz,xZ⟩ Tryz.func192 rfl rfl ⟨trivial,trivial⟩ (fun _ h=>by cases h) Tryz.ntmps192 Tryz.results192 (fun σ hs=>UB hs) (Kq n c)
   |some a=>exact Dx (M:=oO n) ⟨kW,kX,rz _,rA _,wh,wk,yz,xZ⟩ Tryz.func192 rfl rfl ⟨trivial,trivial⟩ (fun _ h=>by cases h) Tryz.ntmps192 Tryz.results192 (fun σ hs=>UB hs) (Kr n a c)
 |n+1,x::xs,r,h=>by
  exact Dx (M:=oO n) ⟨kW,kX,rz _,rA _,wh,wk,yz,xZ⟩ Tryz.func192 rfl rfl ⟨(nj kO.row).nb 0 _,trivial⟩ (vc.nb _ _) Tryz.ntmps192 Tryz.results192 (fun σ hs=>UB hs) (((CW n).2 x xs).trans h)
@[reducible] noncomputable def qW (n:Nat):lF (TF×Unit):=qv Tryz.prog Tryz.f194 n (outM Tryz.prog [.tmp 2] 0 Syntax.row (rsA 0 (fun (b:TF)=>b.1.length) Ke))
noncomputable def GP (n:Nat):{B:Syntax→List Syntax→Option (TF×Unit) // ∀x xs,run (qW n) [.at []] {slots:=[(nj Syntax.row).enc (x::xs)]++jg 7 qA,heap:=[],low:=0}=B x xs}:=by
 apply jf
 intro x xs
 simp (config:={maxSteps:=100000000}) only[go_sem,iU,iV,iQ,iR,iW,iX,iZ,jc,jd,iT,iY,je,Tryz.f194,iS,mixed]
 exact rfl
theorem Om (n:Nat) (c:Nat):run (qW n) [.at []] {slots:=[.raw (.slice none 0 c)]++jg 7 qA,heap:=[],low:=0}=some (([],()),()):=by simp (config:={maxSteps:=100000000}) only[go_sem,iU,iV,iQ,iR,iW,iX,iZ,jc,jd,iT,iY,je,Tryz.f194,iS,mixed]
theorem On (n:Nat) (a:Addr) (c:Nat):run (qW n) [.at []] {slots:=[.raw (.slice (some a) 0 c)]++jg 7 qA,heap:=[],low:=0}=some (([],()),()):=by simp (config:={maxSteps:=100000000}) only[go_sem,iU,iV,iQ,iR,iW,iX,iZ,jc,jd,iT,iY,je,Tryz.f194,iS,mixed]
noncomputable def I1:Nat→(List Syntax)→Option (TF×Unit)
 |0,_=>none
 |_+1,[]=>some (([],()),())
 |n+1,x::xs=>(GP n).1 x xs
theorem Oo: ∀ (n:Nat) (a0:(List Syntax)) (r:(TF×Unit)),I1 n a0=some r→ZW Tryz.prog 194 (((XB (nj Syntax.row) L3):GJ Unit _).enc () (a0,())) (vc.enc ()) (fun o H'=>o= .ret (s9 ((rsA 0 (fun (b:TF)=>b.1.length) Ke).enc r.1 r.2))∧H'=(wP (Zi false Syntax.row) vc).enc r.1)
 |0,_,_,h=>by cases h
 |n+1,[],r,h=>by
  cases h
  exact Zz fun base c=>by
   cases base with
   |none=>exact Dx (M:=qW n) ⟨kW,kX,rz _,rA _,wh,wk,yz,xZ⟩ Tryz.func194 rfl rfl ⟨trivial,trivial⟩ (fun _ h=>by cases h) Tryz.ntmps194 Tryz.results194 (fun σ hs=>UB hs) (Om n c)
   |some a=>exact Dx (M:=qW n) ⟨kW,kX,rz _,rA _,wh,wk,yz,xZ⟩ Tryz.func194 rfl rfl ⟨trivial,trivial⟩ (fun _ h=>by cases h) Tryz.ntmps194 Tryz.results194 (fun σ hs=>UB hs) (On n a c)
 |n+1,x::xs,r,h=>by
  exact Dx (M:=qW n) ⟨kW,kX,rz _,rA _,wh,wk,yz,xZ⟩ Tryz.func194 rfl rfl ⟨(nj Syntax.row).nb 0 _,trivial⟩ (vc.nb _ _) Tryz.ntmps194 Tryz.results194 (fun σ hs=>UB hs) (((GP n).2 x xs).trans h)
end Go.Abs
namespace Go.Abs
open Go.Proofs
set_option maxRecDepth 100000
set_option maxHeartbeats 4000000
@[reducible] noncomputable def qw (n:Nat):lF (List kR):=qv Tryz.prog Tryz.f193 n (qT Tryz.prog [.tmp 2] (nj kR.row))
noncomputable def FN (n:Nat):{B:kR→List kR→Option (List kR) // ∀x xs,run (qw n) [.at []] {slots:=[(nj kR.row).enc (x::xs)]++jg 7 qA,heap:=[]}=B x xs}:=by
 apply jf
 intro x xs
 simp (config:={maxSteps:=100000000}) only[go_sem,iU,iV,iQ,iR,iW,iX,iZ,jc,jd,iT,iY,je,Tryz.f193,iS,mixed]
 exact rfl
theorem Nd (n:Nat) (c:Nat):run (qw n) [.at []] {slots:=[.raw (.slice none 0 c)]++jg 7 qA,heap:=[]}=some []:=by simp (config:={maxSteps:=100000000}) only[go_sem,iU,iV,iQ,iR,iW,iX,iZ,jc,jd,iT,iY,je,Tryz.f193,iS,mixed]
theorem Nf (n:Nat) (a:Addr) (c:Nat):run (qw n) [.at []] {slots:=[.raw (.slice (some a) 0 c)]++jg 7 qA,heap:=[]}=some []:=by simp (config:={maxSteps:=100000000}) only[go_sem,iU,iV,iQ,iR,iW,iX,iZ,jc,jd,iT,iY,je,Tryz.f193,iS,mixed]
noncomputable def HQ:Nat→(List kR)→Option (List kR)
 |0,_=>none
 |_+1,[]=>some []
 |n+1,x::xs=>(FN n).1 x xs
theorem Ng: ∀ (n:Nat) (a0:(List kR)) (r:(List kR)),HQ n a0=some r→yP Tryz.prog 193 [(nj kR.row).enc a0] (fun v=>v=(nj kR.row).enc r)
 |0,_,_,h=>by cases h
 |n+1,[],r,h=>by
  cases h
  exact fnC_raw0 fun base c=>by
   cases base with
   |none=>exact Yn (M:=qw n) ⟨kW,kX,rz _,rA _,wh,wk,yz,xZ⟩ Tryz.func193 rfl rfl ⟨trivial,trivial⟩ Tryz.ntmps193 Tryz.results193 (fun σ hs=>Wi (P:=Tryz.prog) (rs:=[.tmp 2]) (t:=(nj kR.row)) (σ:=σ) hs) (Nd n c)
   |some a=>exact Yn (M:=qw n) ⟨kW,kX,rz _,rA _,wh,wk,yz,xZ⟩ Tryz.func193 rfl rfl ⟨trivial,trivial⟩ Tryz.ntmps193 Tryz.results193 (fun σ hs=>Wi (P:=Tryz.prog) (rs:=[.tmp 2]) (t:=(nj kR.row)) (σ:=σ) hs) (Nf n a c)
 |n+1,x::xs,r,h=>by
  exact Yn (M:=qw n) ⟨kW,kX,rz _,rA _,wh,wk,yz,xZ⟩ Tryz.func193 rfl rfl ⟨(nj kR.row).nb 0 _,trivial⟩ Tryz.ntmps193 Tryz.results193 (fun σ hs=>Wi (P:=Tryz.prog) (rs:=[.tmp 2]) (t:=(nj kR.row)) (σ:=σ) hs) (((FN n).2 x xs).trans h)
@[reducible] noncomputable def qF (n:Nat):lF Int:=qv Tryz.prog Tryz.f157 n (qT Tryz.prog [.tmp 2] (mK .i64)) (AZ:=mU []) (AY:=mU [])
theorem UL (n:Nat):nP (qF n) [0,1,1]=true∧nP (qF n) [0,1,1,1]=true:=⟨by kernel_rfl,by kernel_rfl⟩
theorem UM (n:Nat):lS (qF n) [0,1,1] 3 12=true∧lS (qF n) [0,1,1] 7 12=true∧lS (qF n) [0,1,1] 9 12=true∧lS (qF n) [0,1,1] 10 12=true∧lS (qF n) [0,1,1] 11 12=true:=⟨by kernel_rfl,by kernel_rfl,by kernel_rfl,by kernel_rfl,by kernel_rfl⟩
attribute [go_sem] UL UM
noncomputable def LD (n:Nat):{B:kN→Option Int // ∀ (a0:kN),run (qF n) [.at []] (ini [(zZ kN.cel).enc a0] 35)=B a0}:=by
 apply jf
 intro a0
 simp (config:={maxSteps:=100000000}) only[go_sem,iU,iV,iQ,iR,iW,iX,iZ,jc,jd,iT,iY,je,Tryz.f157,iS,mixed]
 exact rfl
noncomputable def sC:=fu fun n=>(LD n).1
theorem rF: ∀ (n:Nat) (a0:kN) (r:Int),sC n a0=some r→yP Tryz.prog 157 [(zZ kN.cel).enc a0] (fun v=>v=(mK .i64).enc r)
 |0,_,_,h=>by cases h
 |n+1,a0,r,h=>by
  exact Lc (((LD n).2 a0).trans h) (gd kW kX) Tryz.func157 ⟨(zZ kN.cel).nb 0 _,trivial⟩ Tryz.ntmps157 Tryz.results157
@[reducible] noncomputable def Pp (n:Nat):lF Ti:=qv Tryz.prog Tryz.f158 n (qT Tryz.prog [.tmp 2] (tyK1 190 (zZ (cL kT.row)))) (cut:=UF [([1,1],[0])])
noncomputable def GQ (n:Nat):{B:Ti→Option Ti // ∀ (a0:Ti),run (Pp n) [.at []] (ini [(nj kT.row).enc a0] 4)=B a0}:=by
 apply jf
 intro a0
 simp (config:={maxSteps:=100000000}) only[go_sem,iU,iV,iQ,iR,iW,iX,iZ,jc,jd,iT,iY,je,Tryz.f158,iS,mixed]
 exact rfl
noncomputable def I2:=fu fun n=>(GQ n).1
theorem Oq: ∀ (n:Nat) (a0:Ti) (r:Ti),I2 n a0=some r→yP Tryz.prog 158 [(nj kT.row).enc a0] (fun v=>v=(tyK1 190 (zZ (cL kT.row))).enc r)
 |0,_,_,h=>by cases h
 |n+1,a0,r,h=>by
  exact Lc (((GQ n).2 a0).trans h) (gd kW kX) Tryz.func158 ⟨(nj kT.row).nb 0 _,trivial⟩ Tryz.ntmps158 Tryz.results158
noncomputable def mY:wQ:=(lkAt [] (sub [0,1,0,1] ((Tryz.f121.body).getD .skip)))
theorem Cr:mY.ps.size=2∧ ∀j:Int,oP mY.js j=none:=⟨by kernel_rfl,fun j=>(by show oP [] j=none;unfold oP lookJ;cases (j==0)<;>rfl)⟩
noncomputable def sn:AL (Int×(kT×Unit)):=(lM (mK .i64) (lM (lK kT.cel) kZ))
noncomputable def lO:OL (Unit×Tk):=(lG (ogL0 mY (Ph 3 (lT 1 (alZ (lT 2 (Ph 23 kZ)))))) (lG (mT (ql Syntax.cel 8 kZ)) (lG (mT (ql Syntax.cel 8 kZ)) nM)))
noncomputable def nV:OL TA:=(lG (ogL mY (Ph 3 (lT 1 (alZ (lT 2 (Ph 23 kZ)))))) (lG (mT (ql Syntax.cel 8 kZ)) (lG (mT (ql Syntax.cel 8 kZ)) nM)))
attribute [go_sem] sn lO nV
noncomputable def mj (n:Nat):lF (TA×(Bool×Unit)) where
 body:= .seq (Zt (sub [0,1,0,1] ((Tryz.f121.body).getD .skip))) (bdyC (sub [0,1,0,1] ((Tryz.f121.body).getD .skip)))
 P:=Tryz.prog
 cl:=oS []
 cd:=Pd []
 wU:=vR []
 cut:=UF []
 n:=n
 out:=(fun _=>none)
 qT:=outRd [] [] [0,1,2] 3 nV
 Ab:=mU []
theorem Ot (n:Nat):(mj n).P=Tryz.prog∧(mj n).cl=oS []∧(mj n).cd=Pd []∧(mj n).wU=vR []∧(mj n).cut=UF []∧(mj n).n=n∧(mj n).out=(fun _=>none)∧(mj n).qT=outRd [] [] [0,1,2] 3 nV∧(mj n).Ab=mU []:=⟨rfl,rfl,rfl,rfl,rfl,rfl,rfl,rfl,rfl⟩
theorem Ou (n:Nat):(mj n).body= .seq (Zt (sub [0,1,0,1] ((Tryz.f121.body).getD .skip))) (bdyC (sub [0,1,0,1] ((Tryz.f121.body).getD .skip))):=rfl
theorem Ov:Code.seq (Zt (sub [0,1,0,1] ((Tryz.f121.body).getD .skip))) (bdyC (sub [0,1,0,1] ((Tryz.f121.body).getD .skip)))=Code.seq mY.assign mY.body:=by kernel_rfl
attribute [go_sem] Ot Ou Cr
noncomputable def FO (n:Nat):{B:Int→kT→Syntax→Syntax→Option (TA×(Bool×Unit)) // ∀ (a0:Int) (a1:kT) (o0:Syntax) (o1:Syntax),run (mj n) [.at [0],.rb,.at [1],.rd] {slots:=Pb ((Ph 3 (lT 1 (alZ (lT 2 (Ph 23 kZ))))).enc (lO.lens ((),(o0,()),(o1,()),())) ()) [11,12] (sn.enc (lO.lens ((),(o0,()),(o1,()),())) (a0,a1,())),heap:=(lO.enc (lO.lens ((),(o0,()),(o1,()),())) ((),(o0,()),(o1,()),())),low:=(lO.enc (lO.lens ((),(o0,()),(o1,()),())) ((),(o0,()),(o1,()),())).length}=B a0 a1 o0 o1}:=by
 apply jf
 intro a0 a1 o0 o1
 simp (config:={maxSteps:=100000000}) only[go_sem,iU,iV,iQ,iR,iW,iX,iZ,jc,jd,iT,iY,je,Tryz.f121,iS,mixed]
 exact rfl
noncomputable def HR:=fu fun n=>(FO n).1
theorem Nh: ∀ (n:Nat) (a0:Int) (a1:kT) (o0:Syntax) (o1:Syntax) (r:(TA×(Bool×Unit))),HR n a0 a1 o0 o1=some r→Y0 Tryz.prog (R8 Tryz.prog) (sn.enc (lO.lens ((),(o0,()),(o1,()),())) (a0,a1,())) (lO.enc (lO.lens ((),(o0,()),(o1,()),())) ((),(o0,()),(o1,()),())) (fun o H'=>o= .ret (s9 ((lM pQ kZ).enc (nV.lens r.1) r.2))∧H'=nV.enc (nV.lens r.1) r.1)
 |0,_,_,_,_,_,h=>by cases h
 |n+1,a0,a1,o0,o1,r,h=>by
  exact fnT_run (M:=mj n) (lk:=mY) (slots:=((Ph 3 (lT 1 (alZ (lT 2 (Ph 23 kZ))))).enc (lO.lens ((),(o0,()),(o1,()),())) ())) ⟨kW,kX,rz _,rA _,wh,wk,yz,xZ⟩ Ov (by kernel_rfl) ⟨by kernel_rfl,by kernel_rfl⟩ rfl (sM (jh (of_decide_eq_true (by kernel_rfl)) (ji (lO.sz _ _).symm)) _ (sn.nb _ _)) (fun x hx=>Bn (jh (of_decide_eq_true (by kernel_rfl)) (ji (lO.sz _ _).symm)) _ (lO.nb _ _ x hx)) (fun e σ hs=>outRd_ok (js:=[]) (pos:=[]) (base:=[0,1,2]) (low:=3) (os:=nV) (e:=e) (σ:=σ) (r:=r) (by rfl) hs) (((FO n).2 a0 a1 o0 o1).trans h)
noncomputable def qt:OL (Unit×T0):=(lG (mT (lT 1 kZ)) (lG (mT (ql kN.cel 6 kZ)) nM))
noncomputable def qu:OL (Unit×T0):=(lG (mT (lT 1 kZ)) (lG (mT (ql kN.cel 6 kZ)) nM))
attribute [go_sem] qt qu
@[reducible] noncomputable def L6 (n:Nat):lF TN:=qv Tryz.prog Tryz.f289 n (EH Tryz.prog [] [] [0,1] 2 qu kZ)
noncomputable def DF (n:Nat):{B:kN→Option TN // ∀ (o0:kN),run (L6 n) [.at []] (s8 (lT 0 kZ) qt ((),(o0,()),()) () 8)=B o0}:=by
 apply jf
 intro o0
 simp (config:={maxSteps:=100000000}) only[go_sem,iU,iV,iQ,iR,iW,iX,iZ,jc,jd,iT,iY,je,Tryz.f289,iS,mixed]
 exact rfl
noncomputable def z7:=fu fun n=>(DF n).1
theorem Lf: ∀ (n:Nat) (o0:kN) (r:TN),z7 n o0=some r→SD Tryz.prog 289 (lT 0 kZ) qt ((),(o0,()),()) () qu kZ r
 |0,_,_,h=>by cases h
 |n+1,o0,r,h=>by
  exact okD (((DF n).2 o0).trans h) (gd kW kX) Tryz.func289 Tryz.ntmps289 Tryz.results289
noncomputable def HT:DO:=⟨[],[],(zT (nj nq)::zK::nr (zA::zK::zK::nr (nr (zA::zA::[])))),[],none,none⟩
@[reducible] noncomputable def I3 (n:Nat):lF Int:=qv Tryz.prog Tryz.f216 n (qT Tryz.prog [.tmp 4] (mK .i64)) (wU:=vR [([0,1,0,1],HT)])
attribute [go_sem] HT
noncomputable abbrev HU (v0:List Str) (v1:Str) (v2:Int) (v3:Int):AState:=⟨(.l5 false 1 (mp mo v0):: .str (sb v1)::nQ (qA:: .int .i64 v2:: .int .i64 v3::nQ (nQ (qA::qA::[])))),[],0,[]⟩
abbrev yB:=(List Str)→Str→Int→Int→Option Int
abbrev yC (n:Nat) (K:List Kt) (Z:yB):Prop:= ∀ (v0:List Str) (v1:Str) (v2:Int) (v3:Int),run (I3 n) K (HU v0 v1 v2 v3)=Z v0 v1 v2 v3
attribute [go_sem] HU
noncomputable def Cs (n:Nat):{B:yB→yB // ∀m X0,yC n (.lq m [0,1,0,1]::[.blk 0,.cut [1,1],.at [1,1]]) X0→yC n (.at [0,0,1,0,1]:: .lp m [0,1,0,1]::[.blk 0,.cut [1,1],.at [1,1]]) (B X0)}:=by
 apply jf
 intro m X0 ih v0 v1 v2 v3
 simp (config:={maxSteps:=100000000}) only[go_sem,iU,iV,iQ,iR,iW,iX,iZ,jc,jd,iT,iY,je,Tryz.f216,iS,mixed,ih]
 exact rfl
noncomputable def Ct (n:Nat):Nat→yB:=FH ((Cs n).1)
theorem slices_Index_string_l1_s {n:Nat} {m:Nat}:Ct n (m+1)=(Cs n).1 (Ct n m):=rfl
theorem Ni (n:Nat) (m:Nat):yC n (.lq m [0,1,0,1]::[.blk 0,.cut [1,1],.at [1,1]]) (Ct n m):=
 mB (G:=fun m Z=>yC n (.lq m [0,1,0,1]::[.blk 0,.cut [1,1],.at [1,1]]) Z) (fun _ _ _ _=>k7) (fun m _ ih v0 v1 v2 v3=>k8.trans ((Cs n).2 _ _ ih v0 v1 v2 v3)) m
noncomputable def I4 (n:Nat):{B:(List Str)→Str→Option Int // ∀ (a0:(List Str)) (a1:Str),run (I3 n) [.at []] (ini [(nj nq).enc a0,nh.enc a1] 19)=B a0 a1}:=by
 apply jf
 intro a0 a1
 simp (config:={maxSteps:=100000000}) only[go_sem,iU,iV,iQ,iR,iW,iX,iZ,jc,jd,iT,iY,je,Tryz.f216,iS,mixed,Ni n]
 exact rfl
noncomputable def LF:=fu fun n=>(I4 n).1
theorem Qz: ∀ (n:Nat) (a0:(List Str)) (a1:Str) (r:Int),LF n a0 a1=some r→yP Tryz.prog 216 [(nj nq).enc a0,nh.enc a1] (fun v=>v=(mK .i64).enc r)
 |0,_,_,_,h=>by cases h
 |n+1,a0,a1,r,h=>by
  exact Lc (((I4 n).2 a0 a1).trans h) (gd kW kX) Tryz.func216 ⟨(nj nq).nb 0 _,nh.nb 0 _,trivial⟩ Tryz.ntmps216 Tryz.results216
end Go.Abs
namespace Go.Abs
open Go.Proofs
set_option maxRecDepth 100000
set_option maxHeartbeats 4000000
noncomputable def lH:OL Tc:=(lG (mT (lT 4 kZ)) (lG (mT (ql Syntax.cel 8 kZ)) (lG (mT (ql (cI .i64) 1 kZ)) (lG (mT (ql (cI .i64) 1 kZ)) (lG (mT (lT 5 (lM (nj Syntax.row) (lM (mK .i64) kZ)))) (lG (mT (u9 6 (u9 7 (u9 8 (lM (mK .i64) kZ))))) (lG (yS (lK Notation.cel)) (lG (yS (lK Notation.cel)) (lG Gr nM)))))))))
noncomputable def qm:OL Tc:=(lG (mT (lT 4 kZ)) (lG (mT (ql Syntax.cel 8 kZ)) (lG (mT (ql (cI .i64) 1 kZ)) (lG (mT (ql (cI .i64) 1 kZ)) (lG (mT (lT 5 (lM (nj Syntax.row) (lM (mK .i64) kZ)))) (lG (mT (u9 6 (u9 7 (u9 8 (lM (mK .i64) kZ))))) (lG (yS (lK Notation.cel)) (lG (yS (lK Notation.cel)) (lG Gr nM)))))))))
attribute [go_sem] lH qm
@[reducible] noncomputable def zk (n:Nat):lF (Tc×Unit):=qv Tryz.prog Tryz.f198 n (EH Tryz.prog [] [] [0,1,2,3,4,5,6,7,8] 9 qm kZ)
noncomputable def I5 (n:Nat):{B:Syntax→Int→Int→(List Syntax)→Int→Int→T9→T9→T5→Option (Tc×Unit) // ∀ (o0:Syntax) (o1:Int) (o2:Int) (o3:(List Syntax)) (o4:Int) (o5:Int) (o6:T9) (o7:T9) (o8:T5),run (zk n) [.ops (pP (zk n) [0]) ((pP (zk n) [0]).toList.drop 1),.cut [1],.at [1]] (AState.put {slots:=((lT 0 (lT 1 (lT 2 (lT 3 kZ)))).enc (lH.lens ((),(o0,()),(o1,()),(o2,()),(o3,o4,()),(o5,()),o6,o7,o8,())) ())++jg (23-((lT 0 (lT 1 (lT 2 (lT 3 kZ)))).enc (lH.lens ((),(o0,()),(o1,()),(o2,()),(o3,o4,()),(o5,()),o6,o7,o8,())) ()).length) qA,heap:=(lH.enc (lH.lens ((),(o0,()),(o1,()),(o2,()),(o3,o4,()),(o5,()),o6,o7,o8,())) ((),(o0,()),(o1,()),(o2,()),(o3,o4,()),(o5,()),o6,o7,o8,())),low:=(lH.enc (lH.lens ((),(o0,()),(o1,()),(o2,()),(o3,o4,()),(o5,()),o6,o7,o8,())) ((),(o0,()),(o1,()),(o2,()),(o3,o4,()),(o5,()),o6,o7,o8,())).length} (some 7) (.raw .nilIface))=B o0 o1 o2 o3 o4 o5 o6 o7 o8}:=by
 apply jf
 intro o0 o1 o2 o3 o4 o5 o6 o7 o8
 simp (config:={maxSteps:=100000000}) only[go_sem,iU,iV,iQ,iR,iW,iX,iZ,jc,jd,iT,iY,je,Tryz.f198,iS,mixed]
 exact rfl
noncomputable def A1:=fu fun n=>(I5 n).1
theorem QA: ∀ (n:Nat) (o0:Syntax) (o1:Int) (o2:Int) (o3:(List Syntax)) (o4:Int) (o5:Int) (o6:T9) (o7:T9) (o8:T5) (r:(Tc×Unit)),A1 n o0 o1 o2 o3 o4 o5 o6 o7 o8=some r→Y0 Tryz.prog (TRet Tryz.prog 198) ((lT 0 (lT 1 (lT 2 (lT 3 kZ)))).enc (lH.lens ((),(o0,()),(o1,()),(o2,()),(o3,o4,()),(o5,()),o6,o7,o8,())) ()) (lH.enc (lH.lens ((),(o0,()),(o1,()),(o2,()),(o3,o4,()),(o5,()),o6,o7,o8,())) ((),(o0,()),(o1,()),(o2,()),(o3,o4,()),(o5,()),o6,o7,o8,())) (fun o H'=>o=(X5 qm kZ r).1∧H'=(X5 qm kZ r).2)
 |0,_,_,_,_,_,_,_,_,_,_,h=>by cases h
 |n+1,o0,o1,o2,o3,o4,o5,o6,o7,o8,r,h=>by
  exact Wu (M:=zk n) (p1:=[]) (b1:=[0,1,2,3,4,5,6,7,8]) (args:=((lT 0 (lT 1 (lT 2 (lT 3 kZ)))).enc (lH.lens ((),(o0,()),(o1,()),(o2,()),(o3,o4,()),(o5,()),o6,o7,o8,())) ())) ⟨kW,kX,rz _,rA _,wh,wk,yz,xZ⟩ Tryz.func198 rfl (by kernel_rfl) (sM (jh (of_decide_eq_true (by kernel_rfl)) (ji (lH.sz _ _).symm)) _ ((lT 0 (lT 1 (lT 2 (lT 3 kZ)))).nb (lH.lens ((),(o0,()),(o1,()),(o2,()),(o3,o4,()),(o5,()),o6,o7,o8,())) ())) (fun x hx=>Bn (jh (of_decide_eq_true (by kernel_rfl)) (ji (lH.sz _ _).symm)) _ (lH.nb _ _ x hx)) Tryz.ntmps198 Tryz.results198 (low:=9) (by rfl) rfl (((I5 n).2 o0 o1 o2 o3 o4 o5 o6 o7 o8).trans h)
noncomputable def rU:AL (Unit×Unit):=(lT 0 (lT 1 (lT 2 (lT 3 (lM (ue 202 RD) kZ)))))
noncomputable def lI:OL Tc:=(lG (mT (lT 4 kZ)) (lG (mT (ql Syntax.cel 8 kZ)) (lG (mT (ql (cI .i64) 1 kZ)) (lG (mT (ql (cI .i64) 1 kZ)) (lG (mT (lT 5 (lM (nj Syntax.row) (lM (mK .i64) kZ)))) (lG (mT (u9 6 (u9 7 (u9 8 (lM (mK .i64) kZ))))) (lG (yS (lK Notation.cel)) (lG (yS (lK Notation.cel)) (lG Gr nM)))))))))
noncomputable def qn:OL Tc:=(lG (mT (lT 4 kZ)) (lG (mT (ql Syntax.cel 8 kZ)) (lG (mT (ql (cI .i64) 1 kZ)) (lG (mT (ql (cI .i64) 1 kZ)) (lG (mT (lT 5 (lM (nj Syntax.row) (lM (mK .i64) kZ)))) (lG (mT (u9 6 (u9 7 (u9 8 (lM (mK .i64) kZ))))) (lG (yS (lK Notation.cel)) (lG (yS (lK Notation.cel)) (lG Gr nM)))))))))
attribute [go_sem] rU lI qn
@[reducible] noncomputable def zl (n:Nat):lF (Tc×Unit):=qv Tryz.prog Tryz.f198 n (EH Tryz.prog [] [] [0,1,2,3,4,5,6,7,8] 9 qn kZ)
noncomputable def I6 (n:Nat):{B:Unit→Syntax→Int→Int→(List Syntax)→Int→Int→T9→T9→T5→Option (Tc×Unit) // ∀ (a0:Unit) (o0:Syntax) (o1:Int) (o2:Int) (o3:(List Syntax)) (o4:Int) (o5:Int) (o6:T9) (o7:T9) (o8:T5),run (zl n) [.ops (pP (zl n) [0]) ((pP (zl n) [0]).toList.drop 1),.cut [1],.at [1]] (AState.put {slots:=((lT 0 (lT 1 (lT 2 (lT 3 kZ)))).enc (lI.lens ((),(o0,()),(o1,()),(o2,()),(o3,o4,()),(o5,()),o6,o7,o8,())) ())++jg (23-((lT 0 (lT 1 (lT 2 (lT 3 kZ)))).enc (lI.lens ((),(o0,()),(o1,()),(o2,()),(o3,o4,()),(o5,()),o6,o7,o8,())) ()).length) qA,heap:=(lI.enc (lI.lens ((),(o0,()),(o1,()),(o2,()),(o3,o4,()),(o5,()),o6,o7,o8,())) ((),(o0,()),(o1,()),(o2,()),(o3,o4,()),(o5,()),o6,o7,o8,())),low:=(lI.enc (lI.lens ((),(o0,()),(o1,()),(o2,()),(o3,o4,()),(o5,()),o6,o7,o8,())) ((),(o0,()),(o1,()),(o2,()),(o3,o4,()),(o5,()),o6,o7,o8,())).length} (some 7) ((ue 202 RD).enc a0))=B a0 o0 o1 o2 o3 o4 o5 o6 o7 o8}:=by
 apply jf
 intro a0 o0 o1 o2 o3 o4 o5 o6 o7 o8
 simp (config:={maxSteps:=100000000}) only[go_sem,iU,iV,iQ,iR,iW,iX,iZ,jc,jd,iT,iY,je,Tryz.f198,iS,mixed]
 exact rfl
noncomputable def A2:=fu fun n=>(I6 n).1
theorem QB: ∀ (n:Nat) (a0:Unit) (o0:Syntax) (o1:Int) (o2:Int) (o3:(List Syntax)) (o4:Int) (o5:Int) (o6:T9) (o7:T9) (o8:T5) (r:(Tc×Unit)),A2 n a0 o0 o1 o2 o3 o4 o5 o6 o7 o8=some r→Y0 Tryz.prog (TPan Tryz.prog 198) (rU.enc (lI.lens ((),(o0,()),(o1,()),(o2,()),(o3,o4,()),(o5,()),o6,o7,o8,())) (a0,())) (lI.enc (lI.lens ((),(o0,()),(o1,()),(o2,()),(o3,o4,()),(o5,()),o6,o7,o8,())) ((),(o0,()),(o1,()),(o2,()),(o3,o4,()),(o5,()),o6,o7,o8,())) (fun o H'=>o=(X5 qn kZ r).1∧H'=(X5 qn kZ r).2)
 |0,_,_,_,_,_,_,_,_,_,_,_,h=>by cases h
 |n+1,a0,o0,o1,o2,o3,o4,o5,o6,o7,o8,r,h=>by
  exact Wt (M:=zl n) (p1:=[]) (b1:=[0,1,2,3,4,5,6,7,8]) (args:=((lT 0 (lT 1 (lT 2 (lT 3 kZ)))).enc (lI.lens ((),(o0,()),(o1,()),(o2,()),(o3,o4,()),(o5,()),o6,o7,o8,())) ())) (x:=(ue 202 RD).enc a0) ⟨kW,kX,rz _,rA _,wh,wk,yz,xZ⟩ Tryz.func198 rfl (by kernel_rfl) (sM (jh (of_decide_eq_true (by kernel_rfl)) (ji (lI.sz _ _).symm)) _ (rU.nb (lI.lens ((),(o0,()),(o1,()),(o2,()),(o3,o4,()),(o5,()),o6,o7,o8,())) (a0,()))) (fun x hx=>Bn (jh (of_decide_eq_true (by kernel_rfl)) (ji (lI.sz _ _).symm)) _ (lI.nb _ _ x hx)) Tryz.ntmps198 Tryz.results198 (low:=9) (by rfl) rfl (((I6 n).2 a0 o0 o1 o2 o3 o4 o5 o6 o7 o8).trans h)
noncomputable def Ai:OL T3:=(lG (mT (u9 1 (u9 2 (u9 3 (lM (mK .i64) kZ))))) (lG (yS (lK Notation.cel)) (lG (yS (lK Notation.cel)) (lG Gr nM))))
attribute [go_sem] Ai
noncomputable def LG (F:Option (T3×Unit)):=entX [] nM kZ Ai (lT 0 kZ) (fun (b:Unit) (a:Unit)=>F)
attribute [go_sem] LG
@[reducible] noncomputable def UN (n:Nat):lF (T3×Unit):=qv Tryz.prog Tryz.f218 n (EH Tryz.prog [.tmp 0] [.arg 0 [],.obj 0 0 [],.obj 0 1 [],.obj 0 2 []] [] 0 Ai (lT 0 kZ))
noncomputable def LH (n:Nat):{B:Option (T3×Unit) // run (UN n) [.at []] (s8 kZ nM () () 6)=B}:=by
 apply jf
 simp (config:={maxSteps:=100000000}) only[go_sem,iU,iV,iQ,iR,iW,iX,iZ,jc,jd,iT,iY,je,Tryz.f218,iS,mixed]
 exact rfl
noncomputable def NR:=fu fun n=>(LH n).1
theorem SC: ∀ (n:Nat) (r:(T3×Unit)),NR n=some r→SG Tryz.prog 218 kZ nM () () Ai (lT 0 kZ) r
 |0,_,h=>by cases h
 |n+1,r,h=>by
  exact okG ((LH n).2.trans h) (gd kW kX) Tryz.func218 Tryz.ntmps218 Tryz.results218
@[reducible] noncomputable def X8 (n:Nat):lF Bool:=qv Tryz.prog Tryz.f244 n (qT Tryz.prog [.tmp 2] pQ)
noncomputable def Ro (n:Nat):{B:Notation→Option Bool // ∀ (a0:Notation),run (X8 n) [.at []] (ini [(lK Notation.cel).enc a0] 8)=B a0}:=by
 apply jf
 intro a0
 simp (config:={maxSteps:=100000000}) only[go_sem,iU,iV,iQ,iR,iW,iX,iZ,jc,jd,iT,iY,je,Tryz.f244,iS,mixed]
 exact rfl
noncomputable def FP:=fu fun n=>(Ro n).1
theorem EK: ∀ (n:Nat) (a0:Notation) (r:Bool),FP n a0=some r→yP Tryz.prog 244 [(lK Notation.cel).enc a0] (fun v=>v=pQ.enc r)
 |0,_,_,h=>by cases h
 |n+1,a0,r,h=>by
  exact Lc (((Ro n).2 a0).trans h) (gd kW kX) Tryz.func244 ⟨(lK Notation.cel).nb 0 _,trivial⟩ Tryz.ntmps244 Tryz.results244
@[reducible] noncomputable def Xh (n:Nat):lF Bool:=qv Tryz.prog Tryz.f245 n (qT Tryz.prog [.tmp 2] pQ)
noncomputable def Pq (n:Nat):{B:Notation→Option Bool // ∀ (a0:Notation),run (Xh n) [.at []] (ini [(lK Notation.cel).enc a0] 12)=B a0}:=by
 apply jf
 intro a0
 simp (config:={maxSteps:=100000000}) only[go_sem,iU,iV,iQ,iR,iW,iX,iZ,jc,jd,iT,iY,je,Tryz.f245,iS,mixed]
 exact rfl
noncomputable def HV:=fu fun n=>(Pq n).1
theorem HW: ∀ (n:Nat) (a0:Notation) (r:Bool),HV n a0=some r→yP Tryz.prog 245 [(lK Notation.cel).enc a0] (fun v=>v=pQ.enc r)
 |0,_,_,h=>by cases h
 |n+1,a0,r,h=>by
  exact Lc (((Pq n).2 a0).trans h) (gd kW kX) Tryz.func245 ⟨(lK Notation.cel).nb 0 _,trivial⟩ Tryz.ntmps245 Tryz.results245
@[reducible] noncomputable def term_letter_m (n:Nat):lF Bool:=qv Tryz.prog Tryz.f270 n (qT Tryz.prog [.tmp 2] pQ)
noncomputable def Ve (n:Nat):{B:Int→Option Bool // ∀ (a0:Int),run (term_letter_m n) [.at []] (ini [(mK .u8).enc a0] 21)=B a0}:=by
 apply jf
 intro a0
 simp (config:={maxSteps:=100000000}) only[go_sem,iU,iV,iQ,iR,iW,iX,iZ,jc,jd,iT,iY,je,Tryz.f270,iS,mixed]
 exact rfl
noncomputable def XK:=fu fun n=>(Ve n).1
theorem ZD: ∀ (n:Nat) (a0:Int) (r:Bool),XK n a0=some r→yP Tryz.prog 270 [(mK .u8).enc a0] (fun v=>v=pQ.enc r)
 |0,_,_,h=>by cases h
 |n+1,a0,r,h=>by
  exact Lc (((Ve n).2 a0).trans h) (gd kW kX) Tryz.func270 ⟨(mK .u8).nb 0 _,trivial⟩ Tryz.ntmps270 Tryz.results270
end Go.Abs
namespace Go.Abs
open Go.Proofs
set_option maxRecDepth 100000
set_option maxHeartbeats 4000000
noncomputable def ve:OL T7:=(lG (mT (lT 1 (lM (nj Syntax.row) (lM (mK .i64) kZ)))) (lG (mT (u9 2 (u9 3 (u9 4 (lM (mK .i64) kZ))))) (lG (yS (lK Notation.cel)) (lG (yS (lK Notation.cel)) (lG Gr nM)))))
noncomputable def vf:OL T7:=(lG (mT (lT 1 (lM (nj Syntax.row) (lM (mK .i64) kZ)))) (lG (mT (u9 2 (u9 3 (u9 4 (lM (mK .i64) kZ))))) (lG (yS (lK Notation.cel)) (lG (yS (lK Notation.cel)) (lG Gr nM)))))
attribute [go_sem] ve vf
noncomputable def AD (F:(List Syntax)→Int→Int→T9→T9→T5→Option TS):=entX [.arg 0 [],.obj 0 0 [],.obj 1 0 [],.obj 1 1 [],.obj 1 2 []] ve (lT 0 kZ) vf (lM nh (lM pQ kZ)) (fun (b:T7) (a:Unit)=>F b.1.1 b.1.2.1 b.2.1.1 b.2.2.1 b.2.2.2.1 b.2.2.2.2.1)
attribute [go_sem] AD
@[reducible] noncomputable def AE (n:Nat):lF TS:=qv Tryz.prog Tryz.f221 n (EH Tryz.prog [.tmp 2,.tmp 3] [] [0,1,2,3,4] 5 vf (lM nh (lM pQ kZ))) (AZ:=mU []) (AY:=mU [])
theorem Ow (n:Nat):nP (AE n) [0,0,1]=true∧nP (AE n) [0,1,1]=true:=⟨by kernel_rfl,by kernel_rfl⟩
attribute [go_sem] Ow
noncomputable def FQ (n:Nat):{B:(List Syntax)→Int→Int→T9→T9→T5→Option TS // ∀ (o0:(List Syntax)) (o1:Int) (o2:Int) (o3:T9) (o4:T9) (o5:T5),run (AE n) [.at []] (s8 (lT 0 kZ) ve ((o0,o1,()),(o2,()),o3,o4,o5,()) () 39)=B o0 o1 o2 o3 o4 o5}:=by
 apply jf
 intro o0 o1 o2 o3 o4 o5
 simp (config:={maxSteps:=100000000}) only[go_sem,iU,iV,iQ,iR,iW,iX,iZ,jc,jd,iT,iY,je,Tryz.f221,iS,mixed]
 exact rfl
noncomputable def Cu:=fu fun n=>(FQ n).1
theorem EX: ∀ (n:Nat) (o0:(List Syntax)) (o1:Int) (o2:Int) (o3:T9) (o4:T9) (o5:T5) (r:TS),Cu n o0 o1 o2 o3 o4 o5=some r→SG Tryz.prog 221 (lT 0 kZ) ve ((o0,o1,()),(o2,()),o3,o4,o5,()) () vf (lM nh (lM pQ kZ)) r
 |0,_,_,_,_,_,_,_,h=>by cases h
 |n+1,o0,o1,o2,o3,o4,o5,r,h=>by
  exact okG (((FQ n).2 o0 o1 o2 o3 o4 o5).trans h) (gd kW kX) Tryz.func221 Tryz.ntmps221 Tryz.results221
@[reducible] noncomputable def Nj (n:Nat):lF Bool:=qv Tryz.prog Tryz.f165 n (qT Tryz.prog [.tmp 4] pQ)
noncomputable def EY (n:Nat):{B:Token→Str→Option Bool // ∀ (a0:Token) (a1:Str),run (Nj n) [.at []] (ini [(lK Token.cel).enc a0,nh.enc a1] 14)=B a0 a1}:=by
 apply jf
 intro a0 a1
 simp (config:={maxSteps:=100000000}) only[go_sem,iU,iV,iQ,iR,iW,iX,iZ,jc,jd,iT,iY,je,Tryz.f165,iS,mixed]
 exact rfl
noncomputable def GR:=fu fun n=>(EY n).1
theorem Mz: ∀ (n:Nat) (a0:Token) (a1:Str) (r:Bool),GR n a0 a1=some r→yP Tryz.prog 165 [(lK Token.cel).enc a0,nh.enc a1] (fun v=>v=pQ.enc r)
 |0,_,_,_,h=>by cases h
 |n+1,a0,a1,r,h=>by
  exact Lc (((EY n).2 a0 a1).trans h) (gd kW kX) Tryz.func165 ⟨(lK Token.cel).nb 0 _,nh.nb 0 _,trivial⟩ Tryz.ntmps165 Tryz.results165
noncomputable def HX:DO:=⟨[],[],(zT (nj nq)::zT (nj nq)::nr (nr (zA::zA::zK::zK::nr (nr (nr []))))),[],none,none⟩
@[reducible] noncomputable def C8 (n:Nat):lF Bool:=qv Tryz.prog Tryz.f41 n (qT Tryz.prog [.tmp 4] pQ) (wU:=vR [([0,1,0,1,1],HX)]) (AZ:=mU []) (AY:=mU [])
theorem RG (n:Nat):nP (C8 n) [0,1,0,0,1,1,0,0,1,0,1,1]=true:=by kernel_rfl
attribute [go_sem] RG HX
noncomputable abbrev HY (v0:List Str) (v1:List Str) (v2:Int) (v3:Int):AState:=⟨(.l5 false 1 (mp mo v0):: .l5 false 1 (mp mo v1)::nQ (nQ (qA::qA:: .int .i64 v2:: .int .i64 v3::nQ (nQ (nQ []))))),[],0,[]⟩
abbrev yD:=(List Str)→(List Str)→Int→Int→Option Bool
abbrev yE (n:Nat) (K:List Kt) (Z:yD):Prop:= ∀ (v0:List Str) (v1:List Str) (v2:Int) (v3:Int),run (C8 n) K (HY v0 v1 v2 v3)=Z v0 v1 v2 v3
attribute [go_sem] HY
noncomputable def uk (n:Nat):{B:yD→yD // ∀m X0,yE n (.lq m [0,1,0,1,1]::[.blk 0,.cut [1,1,1],.at [1,1,1]]) X0→yE n (.at [0,0,1,0,1,1]:: .lp m [0,1,0,1,1]::[.blk 0,.cut [1,1,1],.at [1,1,1]]) (B X0)}:=by
 apply jf
 intro m X0 ih v0 v1 v2 v3
 simp (config:={maxSteps:=100000000}) only[go_sem,iU,iV,iQ,iR,iW,iX,iZ,jc,jd,iT,iY,je,Tryz.f41,iS,mixed,ih]
 exact rfl
noncomputable def um (n:Nat):Nat→yD:=FH ((uk n).1)
theorem FR {n:Nat} {m:Nat}:um n (m+1)=(uk n).1 (um n m):=rfl
theorem Nk (n:Nat) (m:Nat):yE n (.lq m [0,1,0,1,1]::[.blk 0,.cut [1,1,1],.at [1,1,1]]) (um n m):=
 mB (G:=fun m Z=>yE n (.lq m [0,1,0,1,1]::[.blk 0,.cut [1,1,1],.at [1,1,1]]) Z) (fun _ _ _ _=>k7) (fun m _ ih v0 v1 v2 v3=>k8.trans ((uk n).2 _ _ ih v0 v1 v2 v3)) m
noncomputable def C9 (n:Nat):{B:(List Str)→(List Str)→Option Bool // ∀ (a0:(List Str)) (a1:(List Str)),run (C8 n) [.at []] (ini [(nj nq).enc a0,(nj nq).enc a1] 26)=B a0 a1}:=by
 apply jf
 intro a0 a1
 simp (config:={maxSteps:=100000000}) only[go_sem,iU,iV,iQ,iR,iW,iX,iZ,jc,jd,iT,iY,je,Tryz.f41,iS,mixed,Nk n]
 exact rfl
noncomputable def A3:=fu fun n=>(C9 n).1
theorem QD: ∀ (n:Nat) (a0:(List Str)) (a1:(List Str)) (r:Bool),A3 n a0 a1=some r→yP Tryz.prog 41 [(nj nq).enc a0,(nj nq).enc a1] (fun v=>v=pQ.enc r)
 |0,_,_,_,h=>by cases h
 |n+1,a0,a1,r,h=>by
  exact Lc (((C9 n).2 a0 a1).trans h) (gd kW kX) Tryz.func41 ⟨(nj nq).nb 0 _,(nj nq).nb 0 _,trivial⟩ Tryz.ntmps41 Tryz.results41
noncomputable def EZ:DO:=⟨[],[],(zT (nj kR.row)::zT (nj kR.row)::nr (nr (zA::zA::zK::zK::nr (nr (nr []))))),[],none,none⟩
@[reducible] noncomputable def AF (n:Nat):lF Bool:=qv Tryz.prog Tryz.f83 n (qT Tryz.prog [.tmp 4] pQ) (wU:=vR [([0,1,0,1,1],EZ)]) (AZ:=mU []) (AY:=mU [])
theorem Ox (n:Nat):nP (AF n) [0,1,0,0,1,1,0,0,1,0,1,1]=true:=by kernel_rfl
attribute [go_sem] Ox EZ
noncomputable abbrev E0 (v0:List kR) (v1:List kR) (v2:Int) (v3:Int):AState:=⟨(.l5 false 2 (mp kR.cells v0):: .l5 false 2 (mp kR.cells v1)::nQ (nQ (qA::qA:: .int .i64 v2:: .int .i64 v3::nQ (nQ (nQ []))))),[],0,[]⟩
abbrev vg:=(List kR)→(List kR)→Int→Int→Option Bool
abbrev vh (n:Nat) (K:List Kt) (Z:vg):Prop:= ∀ (v0:List kR) (v1:List kR) (v2:Int) (v3:Int),run (AF n) K (E0 v0 v1 v2 v3)=Z v0 v1 v2 v3
attribute [go_sem] E0
noncomputable def so (n:Nat):{B:vg→vg // ∀m X0,vh n (.lq m [0,1,0,1,1]::[.blk 0,.cut [1,1,1],.at [1,1,1]]) X0→vh n (.at [0,0,1,0,1,1]:: .lp m [0,1,0,1,1]::[.blk 0,.cut [1,1,1],.at [1,1,1]]) (B X0)}:=by
 apply jf
 intro m X0 ih v0 v1 v2 v3
 simp (config:={maxSteps:=100000000}) only[go_sem,iU,iV,iQ,iR,iW,iX,iZ,jc,jd,iT,iY,je,Tryz.f83,iS,mixed,ih]
 exact rfl
noncomputable def sr (n:Nat):Nat→vg:=FH ((so n).1)
theorem DG {n:Nat} {m:Nat}:sr n (m+1)=(so n).1 (sr n m):=rfl
theorem Lg (n:Nat) (m:Nat):vh n (.lq m [0,1,0,1,1]::[.blk 0,.cut [1,1,1],.at [1,1,1]]) (sr n m):=
 mB (G:=fun m Z=>vh n (.lq m [0,1,0,1,1]::[.blk 0,.cut [1,1,1],.at [1,1,1]]) Z) (fun _ _ _ _=>k7) (fun m _ ih v0 v1 v2 v3=>k8.trans ((so n).2 _ _ ih v0 v1 v2 v3)) m
noncomputable def AG (n:Nat):{B:(List kR)→(List kR)→Option Bool // ∀ (a0:(List kR)) (a1:(List kR)),run (AF n) [.at []] (ini [(nj kR.row).enc a0,(nj kR.row).enc a1] 26)=B a0 a1}:=by
 apply jf
 intro a0 a1
 simp (config:={maxSteps:=100000000}) only[go_sem,iU,iV,iQ,iR,iW,iX,iZ,jc,jd,iT,iY,je,Tryz.f83,iS,mixed,Lg n]
 exact rfl
noncomputable def yF:=fu fun n=>(AG n).1
theorem Nl: ∀ (n:Nat) (a0:(List kR)) (a1:(List kR)) (r:Bool),yF n a0 a1=some r→yP Tryz.prog 83 [(nj kR.row).enc a0,(nj kR.row).enc a1] (fun v=>v=pQ.enc r)
 |0,_,_,_,h=>by cases h
 |n+1,a0,a1,r,h=>by
  exact Lc (((AG n).2 a0 a1).trans h) (gd kW kX) Tryz.func83 ⟨(nj kR.row).nb 0 _,(nj kR.row).nb 0 _,trivial⟩ Tryz.ntmps83 Tryz.results83
noncomputable def MA:DO:=⟨[],[],(zT (nj nq)::zT (nj nq)::zA::zA::zA::zK::ow (nr [])),[],none,none⟩
@[reducible] noncomputable def HZ (n:Nat):lF Bool:=qv Tryz.prog Tryz.f40 n (qT Tryz.prog [.tmp 4] pQ) (wU:=vR [([0,1,0,1,1],MA)]) (AZ:=mU []) (AY:=mU [])
theorem Wy (n:Nat):nP (HZ n) [0,0,0,1,0,0,1,0,1,1]=true:=by kernel_rfl
attribute [go_sem] Wy MA
noncomputable abbrev MB (v0:List Str) (v1:List Str) (v2:Int):AState:=⟨(.l5 false 1 (mp mo v0):: .l5 false 1 (mp mo v1)::qA::qA::qA:: .int .i64 v2::oJ (nQ [])),[],0,[]⟩
abbrev Cv:=(List Str)→(List Str)→Int→Option Bool
abbrev Cw (n:Nat) (K:List Kt) (Z:Cv):Prop:= ∀ (v0:List Str) (v1:List Str) (v2:Int),run (HZ n) K (MB v0 v1 v2)=Z v0 v1 v2
attribute [go_sem] MB
noncomputable def y9 (n:Nat):{B:Cv→Cv // ∀m X0,Cw n (.lq m [0,1,0,1,1]::[.blk 0,.cut [1,1,1],.at [1,1,1]]) X0→Cw n (.at [0,0,1,0,1,1]:: .lp m [0,1,0,1,1]::[.blk 0,.cut [1,1,1],.at [1,1,1]]) (B X0)}:=by
 apply jf
 intro m X0 ih v0 v1 v2
 simp (config:={maxSteps:=100000000}) only[go_sem,iU,iV,iQ,iR,iW,iX,iZ,jc,jd,iT,iY,je,Tryz.f40,iS,mixed,ih]
 exact rfl
noncomputable def za (n:Nat):Nat→Cv:=FH ((y9 n).1)
theorem Ku {n:Nat} {m:Nat}:za n (m+1)=(y9 n).1 (za n m):=rfl
theorem RH (n:Nat) (m:Nat):Cw n (.lq m [0,1,0,1,1]::[.blk 0,.cut [1,1,1],.at [1,1,1]]) (za n m):=
 mB (G:=fun m Z=>Cw n (.lq m [0,1,0,1,1]::[.blk 0,.cut [1,1,1],.at [1,1,1]]) Z) (fun _ _ _=>k7) (fun m _ ih v0 v1 v2=>k8.trans ((y9 n).2 _ _ ih v0 v1 v2)) m
noncomputable def H6 (n:Nat):{B:(List Str)→(List Str)→Option Bool // ∀ (a0:(List Str)) (a1:(List Str)),run (HZ n) [.at []] (ini [(nj nq).enc a0,(nj nq).enc a1] 26)=B a0 a1}:=by
 apply jf
 intro a0 a1
 simp (config:={maxSteps:=100000000}) only[go_sem,iU,iV,iQ,iR,iW,iX,iZ,jc,jd,iT,iY,je,Tryz.f40,iS,mixed,RH n]
 exact rfl
noncomputable def Gc:=fu fun n=>(H6 n).1
theorem VK: ∀ (n:Nat) (a0:(List Str)) (a1:(List Str)) (r:Bool),Gc n a0 a1=some r→yP Tryz.prog 40 [(nj nq).enc a0,(nj nq).enc a1] (fun v=>v=pQ.enc r)
 |0,_,_,_,h=>by cases h
 |n+1,a0,a1,r,h=>by
  exact Lc (((H6 n).2 a0 a1).trans h) (gd kW kX) Tryz.func40 ⟨(nj nq).nb 0 _,(nj nq).nb 0 _,trivial⟩ Tryz.ntmps40 Tryz.results40
end Go.Abs
namespace Go.Abs
open Go.Proofs
set_option maxRecDepth 100000
set_option maxHeartbeats 4000000
noncomputable def u5:AL T4:=(lT 0 (lT 1 (lT 2 (lM (ue 66 (lK kP.cel)) kZ))))
noncomputable def lY:OL Tf:=(lG (mT (ql Syntax.cel 8 kZ)) (lG (mT (ql (cI .i64) 1 kZ)) (lG (mT (ql (cI .i64) 1 kZ)) nM)))
noncomputable def sA:OL Tf:=(lG (mT (ql Syntax.cel 8 kZ)) (lG (mT (ql (cI .i64) 1 kZ)) (lG (mT (ql (cI .i64) 1 kZ)) nM)))
attribute [go_sem] u5 lY sA
@[reducible] noncomputable def n8 (n:Nat):lF (Tf×Unit):=qv Tryz.prog Tryz.f31 n (EH Tryz.prog [] [] [0,1,2] 3 sA kZ) (cl:=oS [(32,Rm (Vc n))]) (AZ:=mU []) (AY:=mU [])
theorem VM (n:Nat):nP (n8 n) [1,0,1,1]=true:=by kernel_rfl
theorem VN (n:Nat):lS (n8 n) [1,0,1,1] 2 6=true∧lS (n8 n) [1,0,1,1] 5 6=true∧lS (n8 n) [1,0,1,1] 2 7=true∧lS (n8 n) [1,0,1,1] 4 7=true∧lS (n8 n) [1,0,1,1] 5 7=true∧lS (n8 n) [1,0,1,1] 6 7=true:=⟨by kernel_rfl,by kernel_rfl,by kernel_rfl,by kernel_rfl,by kernel_rfl,by kernel_rfl⟩
attribute [go_sem] VM VN
noncomputable def MC (n:Nat):{B:kP→Syntax→Int→Int→Option (Tf×Unit) // ∀ (a0:kP) (o0:Syntax) (o1:Int) (o2:Int),run (n8 n) [.ops (pP (n8 n) [0]) ((pP (n8 n) [0]).toList.drop 1),.cut [1],.at [1]] (AState.put {slots:=((lT 0 (lT 1 (lT 2 kZ))).enc (lY.lens ((o0,()),(o1,()),(o2,()),())) ())++jg (15-((lT 0 (lT 1 (lT 2 kZ))).enc (lY.lens ((o0,()),(o1,()),(o2,()),())) ()).length) qA,heap:=(lY.enc (lY.lens ((o0,()),(o1,()),(o2,()),())) ((o0,()),(o1,()),(o2,()),())),low:=(lY.enc (lY.lens ((o0,()),(o1,()),(o2,()),())) ((o0,()),(o1,()),(o2,()),())).length} (some 5) ((ue 66 (lK kP.cel)).enc a0))=B a0 o0 o1 o2}:=by
 apply jf
 intro a0 o0 o1 o2
 simp (config:={maxSteps:=100000000}) only[go_sem,iU,iV,iQ,iR,iW,iX,iZ,jc,jd,iT,iY,je,Tryz.f31,iS,mixed]
 exact rfl
noncomputable def EL:=fu fun n=>(MC n).1
theorem UO: ∀ (n:Nat) (a0:kP) (o0:Syntax) (o1:Int) (o2:Int) (r:(Tf×Unit)),EL n a0 o0 o1 o2=some r→Y0 Tryz.prog (TPan Tryz.prog 31) (u5.enc (lY.lens ((o0,()),(o1,()),(o2,()),())) (a0,())) (lY.enc (lY.lens ((o0,()),(o1,()),(o2,()),())) ((o0,()),(o1,()),(o2,()),())) (fun o H'=>o=(X5 sA kZ r).1∧H'=(X5 sA kZ r).2)
 |0,_,_,_,_,_,h=>by cases h
 |n+1,a0,o0,o1,o2,r,h=>by
  exact Wt (M:=n8 n) (p1:=[]) (b1:=[0,1,2]) (args:=((lT 0 (lT 1 (lT 2 kZ))).enc (lY.lens ((o0,()),(o1,()),(o2,()),())) ())) (x:=(ue 66 (lK kP.cel)).enc a0) ⟨(kV (Dy (fun b a r h=>(Xg n) a.1 r h)) kW),kX,rz _,rA _,wh,wk,yz,xZ⟩ Tryz.func31 rfl (by kernel_rfl) (sM (jh (of_decide_eq_true (by kernel_rfl)) (ji (lY.sz _ _).symm)) _ (u5.nb (lY.lens ((o0,()),(o1,()),(o2,()),())) (a0,()))) (fun x hx=>Bn (jh (of_decide_eq_true (by kernel_rfl)) (ji (lY.sz _ _).symm)) _ (lY.nb _ _ x hx)) Tryz.ntmps31 Tryz.results31 (low:=3) (by rfl) rfl (((MC n).2 a0 o0 o1 o2).trans h)
noncomputable def H7:DO:=⟨[],[],(zK::zT (zZ cS)::zA::zK::zK::ow (ow (ow (zA::zA::zA::[])))),[oL [zA,zK,zA,zA,zA,zA,zA,zA,zA],oC [zK],oK],none,none⟩
noncomputable def yG:OL TQ:=(lG (ogL0 l9 (alZ (lT 1 (Ph 7 kZ)))) (lG (mT (u9 2 kZ)) (lG Gr nM)))
noncomputable def yH:OL Tt:=(lG (ogL l9 (alZ (lT 1 (Ph 7 kZ)))) (lG (mT (u9 2 kZ)) (lG Gr nM)))
attribute [go_sem] yG yH
noncomputable def I7 (F:Str→T5→Option (Tt×Unit)):=entX [.arg 0 [],.obj 0 1 [],.obj 1 0 []] yG (u9 0 (lM (zZ cS) kZ)) yH kZ (fun (b:TQ) (a:(Str×Unit))=>F a.1 b.2.2.1)
attribute [go_sem] I7
@[reducible] noncomputable def I8 (n:Nat):lF (Tt×Unit):=qv Tryz.prog Tryz.f207 n (EH Tryz.prog [] [] [0,1,2] 3 yH kZ) (wU:=vR [([0,1,0,1],H7)]) (cy:=tabY [(0,entY [.obj 0 1 [],.obj 1 0 []] lg (lM nh kZ) mP (lM pQ kZ) (fun (b:TQ) (a:(Str×Unit))=>(Dz n) a.1 b.2.2.1))])
attribute [go_sem] yA H7
noncomputable abbrev H8 (v0:Str) (v1:Int) (v2:Int) (j0:Int) (r2:List (Str×Bool)):AState:=⟨(.map 0:: .pp [.str (sb v0)]::qA:: .int .i64 v1:: .int .i64 v2::oJ (oJ (oJ (qA::qA::qA::[])))),[.loop l9 [qA,.ptr 1 0,qA,qA,qA,qA,qA,qA,qA] (stJ l9 j0) j0,.cells [.map 2],.map (mp mcB r2)],3,[]⟩
abbrev yI:=Str→Int→Int→Int→T5→Option (Tt×Unit)
abbrev yJ (n:Nat) (K:List Kt) (Z:yI):Prop:= ∀ (v0:Str) (v1:Int) (v2:Int) (j0:Int) (r2:List (Str×Bool)),run (I8 n) K (H8 v0 v1 v2 j0 r2)=Z v0 v1 v2 j0 r2
attribute [go_sem] H8
noncomputable def Cx (n:Nat):{B:yI→yI // ∀m X0,yJ n (.lq m [0,1,0,1]::[.blk 0,.cut [1,1],.at [1,1]]) X0→yJ n (.at [0,0,1,0,1]:: .lp m [0,1,0,1]::[.blk 0,.cut [1,1],.at [1,1]]) (B X0)}:=by
 apply jf
 intro m X0 ih v0 v1 v2 j0 r2
 simp (config:={maxSteps:=100000000}) only[go_sem,iU,iV,iQ,iR,iW,iX,iZ,jc,jd,iT,iY,je,Tryz.f207,iS,mixed,ih]
 exact rfl
noncomputable def Cy (n:Nat):Nat→yI:=FH ((Cx n).1)
theorem strings_FieldsSeq_1_l1_s {n:Nat} {m:Nat}:Cy n (m+1)=(Cx n).1 (Cy n m):=rfl
theorem Nn (n:Nat) (m:Nat):yJ n (.lq m [0,1,0,1]::[.blk 0,.cut [1,1],.at [1,1]]) (Cy n m):=
 mB (G:=fun m Z=>yJ n (.lq m [0,1,0,1]::[.blk 0,.cut [1,1],.at [1,1]]) Z) (fun _ _ _ _ _=>k7) (fun m _ ih v0 v1 v2 j0 r2=>k8.trans ((Cx n).2 _ _ ih v0 v1 v2 j0 r2)) m
noncomputable def I9 (n:Nat):{B:Str→T5→Option (Tt×Unit) // ∀ (a0:Str) (o0:T5),run (I8 n) [.at []] (s8 (u9 0 (lM (zZ cS) kZ)) yG ((),(),o0,()) (a0,()) 56)=B a0 o0}:=by
 apply jf
 intro a0 o0
 simp (config:={maxSteps:=100000000}) only[go_sem,iU,iV,iQ,iR,iW,iX,iZ,jc,jd,iT,iY,je,Tryz.f207,iS,mixed,Nn n]
 exact rfl
noncomputable def LI:=fu fun n=>(I9 n).1
theorem QE: ∀ (n:Nat) (a0:Str) (o0:T5) (r:(Tt×Unit)),LI n a0 o0=some r→SG Tryz.prog 207 (u9 0 (lM (zZ cS) kZ)) yG ((),(),o0,()) (a0,()) yH kZ r
 |0,_,_,_,h=>by cases h
 |n+1,a0,o0,r,h=>by
  exact okG (((I9 n).2 a0 o0).trans h) (gd kW kX (y:=(Wn (fun _ _ _ _ _ h=>entY_ok (fun b a r h=>(JJ n) a.1 b.2.2.1 r h) h) XE))) Tryz.func207 Tryz.ntmps207 Tryz.results207
@[reducible] noncomputable def ZE (n:Nat):lF Bool:=qv Tryz.prog Tryz.f184 n (qT Tryz.prog [.tmp 2] pQ) (cl:=oS [(156,qR (mK .u8) (mK .i64) (GL n))])
noncomputable def SE (n:Nat):{B:Int→Option Bool // ∀ (a0:Int),run (ZE n) [.at []] (ini [(mK .u8).enc a0] 15)=B a0}:=by
 apply jf
 intro a0
 simp (config:={maxSteps:=100000000}) only[go_sem,iU,iV,iQ,iR,iW,iX,iZ,jc,jd,iT,iY,je,Tryz.f184,iS,mixed]
 exact rfl
noncomputable def L7:=fu fun n=>(SE n).1
theorem Lh: ∀ (n:Nat) (a0:Int) (r:Bool),L7 n a0=some r→yP Tryz.prog 184 [(mK .u8).enc a0] (fun v=>v=pQ.enc r)
 |0,_,_,h=>by cases h
 |n+1,a0,r,h=>by
  exact Lc (((SE n).2 a0).trans h) (gd (kV (pH (D2 n)) kW) kX) Tryz.func184 ⟨(mK .u8).nb 0 _,trivial⟩ Tryz.ntmps184 Tryz.results184
@[reducible] noncomputable def lexer_fixed_m (n:Nat):lF (List Str):=qv Tryz.prog Tryz.f150 n (qT Tryz.prog [.tmp 0] (nj nq)) (cl:=oS [(186,qR nh (nj nq) (SB n))])
noncomputable def Vf (n:Nat):{B:Option (List Str) // run (lexer_fixed_m n) [.at []] (ini ([]:List AV) 2)=B}:=by
 apply jf
 simp (config:={maxSteps:=100000000}) only[go_sem,iU,iV,iQ,iR,iW,iX,iZ,jc,jd,iT,iY,je,Tryz.f150,iS,mixed]
 exact rfl
noncomputable def SF:=fu fun n=>(Vf n).1
theorem SH: ∀ (n:Nat) (r:(List Str)),SF n=some r→yP Tryz.prog 150 [] (fun v=>v=(nj nq).enc r)
 |0,_,h=>by cases h
 |n+1,r,h=>by
  exact Lc ((Vf n).2.trans h) (gd (kV (pH (Wx n)) kW) kX) Tryz.func150 trivial Tryz.ntmps150 Tryz.results150
noncomputable def Kv:DO:=⟨[],[],(DR (DR (ow (ow (nr (nr (nr (zA::zA::zA::zK::nr (nr (zA::zA::zA::[])))))))))),[oK],none,none⟩
noncomputable def Kw:DO:=⟨[],[],(zK::nr (zA::zA::zK::zK::zK::zA::zA::zK::DR (DR (ow (ow (nr (nr (nr (zA::zA::[]))))))))),[],none,none⟩
noncomputable def Kx:DO:=⟨[],[],(zK::nr (zA::zA::zK::zK::zK::DR (DR (ow (ow (ow (zA::[]))))))),[],none,none⟩
@[reducible] noncomputable def sB (n:Nat):lF Int:=qv Tryz.prog Tryz.f211 n (qT Tryz.prog [.tmp 4] (mK .i64)) (cl:=oS [(135,yR nh (mK .u8) (mK .i64) (strings_IndexByte n)),(238,qR (mK .i32) pQ (HM n))]) (cd:=Pd [(135,rS (yR nh (mK .u8) (mK .i64) (strings_IndexByte n)))]) (wU:=vR [([0,1,0,0,1,1,1,0,1],Kv),([0,1,0,1,0,0,1,0,0,0,1,1,1,1,0,1,1,1,1,1,1,0,1],Kw),([0,0,1,1,1,1,0,1,1,1,1,1,1,0,1],Kx)]) (AZ:=mU []) (AY:=mU [])
theorem UP (n:Nat):nP (sB n) [0,0,0,0,1,0,0,0,1,1,1,1,0,1,1,1,1,1,1,0,1]=true∧nP (sB n) [0,0,0,1,0,0,1,0,1,0,0,1,0,0,0,1,1,1,1,0,1,1,1,1,1,1,0,1]=true∧nP (sB n) [0,0,1,0,0,0,1,0,0,0,1,1,1,1,0,1,1,1,1,1,1,0,1]=true:=⟨by kernel_rfl,by kernel_rfl,by kernel_rfl⟩
attribute [go_sem] UP Kv Kw Kx
noncomputable abbrev Ky (iv0:Str) (ip0:Nat):AState:=⟨(DQ (DQ (oJ (oJ (nQ (nQ (nQ (qA::qA::qA:: .ptr 0 0::nQ (nQ (qA::qA::qA::[])))))))))),[.iter (sb iv0) ip0],0,[]⟩
abbrev wo:List Kt:=[.blk 9,.cut [1,0,1,1,1,0,1],.at [1,0,1,1,1,0,1],.blk 0]
abbrev Aj:=Str→Nat→Option Int
abbrev Ak (n:Nat) (K:List Kt) (Z:Aj):Prop:= ∀ (iv0:Str) (ip0:Nat),run (sB n) K (Ky iv0 ip0)=Z iv0 ip0
noncomputable abbrev Kz (v0:Str) (v1:Str) (v2:Int) (v3:Int) (v4:Int):AState:=⟨(.str (sb v0)::nQ (qA::qA:: .str (sb v1):: .int .i64 v2:: .int .i64 v3::qA::qA:: .int .i64 v4::DQ (DQ (oJ (oJ (nQ (nQ (nQ (qA::qA::[]))))))))),[],0,[]⟩
abbrev wq (m3:Nat):List Kt:=[.blk 3,.cut [1,1,0,0,1,0,0,0,1,1,1,1,0,1,1,1,1,1,1,0,1],.at [1,1,0,0,1,0,0,0,1,1,1,1,0,1,1,1,1,1,1,0,1],.blk 2,.lp m3 [0,0,1,1,1,1,0,1,1,1,1,1,1,0,1],.blk 1,.cut [1,1,1,1,1,0,1,1,1,1,1,1,0,1],.at [1,1,1,1,1,0,1,1,1,1,1,1,0,1],.blk 0]
abbrev Al:=Str→Str→Int→Int→Int→Option Int
abbrev Am (n:Nat) (K:List Kt) (Z:Al):Prop:= ∀ (v0:Str) (v1:Str) (v2:Int) (v3:Int) (v4:Int),run (sB n) K (Kz v0 v1 v2 v3 v4)=Z v0 v1 v2 v3 v4
noncomputable abbrev KA (v0:Str) (v1:Str) (v2:Int) (v3:Int):AState:=⟨(.str (sb v0)::nQ (qA::qA:: .str (sb v1):: .int .i64 v2:: .int .i64 v3::DQ (DQ (oJ (oJ (oJ (qA::[]))))))),[],0,[]⟩
abbrev rG:List Kt:=[.blk 1,.cut [1,1,1,1,1,0,1,1,1,1,1,1,0,1],.at [1,1,1,1,1,0,1,1,1,1,1,1,0,1],.blk 0]
abbrev rH:=Str→Str→Int→Int→Option Int
abbrev tC (n:Nat) (K:List Kt) (Z:rH):Prop:= ∀ (v0:Str) (v1:Str) (v2:Int) (v3:Int),run (sB n) K (KA v0 v1 v2 v3)=Z v0 v1 v2 v3
attribute [go_sem] Ky wo Kz wq KA rG
noncomputable def D5 (n:Nat):{B:Aj→Aj // ∀m X0,Ak n (.lq m [0,1,0,0,1,1,1,0,1]::wo) X0→Ak n (.at [0,0,1,0,0,1,1,1,0,1]:: .lp m [0,1,0,0,1,1,1,0,1]::wo) (B X0)}:=by
 apply jf
 intro m X0 ih iv0 ip0
 simp (config:={maxSteps:=100000000}) only[go_sem,iU,iV,iQ,iR,iW,iX,iZ,jc,jd,iT,iY,je,Tryz.f211,iS,mixed,ih]
 exact rfl
noncomputable def D6 (n:Nat):Nat→Aj:=FH ((D5 n).1)
theorem strings_IndexRune_l1_s {n:Nat} {m:Nat}:D6 n (m+1)=(D5 n).1 (D6 n m):=rfl
theorem Bu (n:Nat) (m:Nat):Ak n (.lq m [0,1,0,0,1,1,1,0,1]::wo) (D6 n m):=
 mB (G:=fun m Z=>Ak n (.lq m [0,1,0,0,1,1,1,0,1]::wo) Z) (fun _ _=>k7) (fun m _ ih iv0 ip0=>k8.trans ((D5 n).2 _ _ ih iv0 ip0)) m
noncomputable def D7 (n:Nat):{B:rH→Al→Al // ∀m3 X3 m X0,tC n (.lq m3 [0,0,1,1,1,1,0,1,1,1,1,1,1,0,1]::rG) X3→Am n (.lq m [0,1,0,1,0,0,1,0,0,0,1,1,1,1,0,1,1,1,1,1,1,0,1]::wq m3) X0→Am n (.at [0,0,1,0,1,0,0,1,0,0,0,1,1,1,1,0,1,1,1,1,1,1,0,1]:: .lp m [0,1,0,1,0,0,1,0,0,0,1,1,1,1,0,1,1,1,1,1,1,0,1]::wq m3) (B X3 X0)}:=by
 apply jf
 intro m3 X3 m X0 h3 ih v0 v1 v2 v3 v4
 simp (config:={maxSteps:=100000000}) only[go_sem,iU,iV,iQ,iR,iW,iX,iZ,jc,jd,iT,iY,je,Tryz.f211,iS,mixed,Bu n,h3,ih]
 exact rfl
noncomputable def D8 (n:Nat) (X3:rH):Nat→Al:=FH ((D7 n).1 X3)
theorem strings_IndexRune_l2_s {n:Nat} (X3:rH) {m:Nat}:D8 n X3 (m+1)=(D7 n).1 X3 (D8 n X3 m):=rfl
theorem Pr (n:Nat) {m3:Nat} {X3} (h3:tC n (.lq m3 [0,0,1,1,1,1,0,1,1,1,1,1,1,0,1]::rG) X3) (m:Nat):Am n (.lq m [0,1,0,1,0,0,1,0,0,0,1,1,1,1,0,1,1,1,1,1,1,0,1]::wq m3) (D8 n X3 m):=
 mB (G:=fun m Z=>Am n (.lq m [0,1,0,1,0,0,1,0,0,0,1,1,1,1,0,1,1,1,1,1,1,0,1]::wq m3) Z) (fun _ _ _ _ _=>k7) (fun m _ ih v0 v1 v2 v3 v4=>k8.trans ((D7 n).2 _ _ _ _ h3 ih v0 v1 v2 v3 v4)) m
noncomputable def D9 (n:Nat):{B:rH→rH // ∀m X0,tC n (.lq m [0,0,1,1,1,1,0,1,1,1,1,1,1,0,1]::rG) X0→tC n (.at [0,0,0,1,1,1,1,0,1,1,1,1,1,1,0,1]:: .lp m [0,0,1,1,1,1,0,1,1,1,1,1,1,0,1]::rG) (B X0)}:=by
 apply jf
 intro m X0 ih v0 v1 v2 v3
 simp (config:={maxSteps:=100000000}) only[go_sem,iU,iV,iQ,iR,iW,iX,iZ,jc,jd,iT,iY,je,Tryz.f211,iS,mixed,Bu n,Pr n ih,ih]
 exact rfl
noncomputable def Ea (n:Nat):Nat→rH:=FH ((D9 n).1)
theorem strings_IndexRune_l3_s {n:Nat} {m:Nat}:Ea n (m+1)=(D9 n).1 (Ea n m):=rfl
theorem Pt (n:Nat) (m:Nat):tC n (.lq m [0,0,1,1,1,1,0,1,1,1,1,1,1,0,1]::rG) (Ea n m):=
 mB (G:=fun m Z=>tC n (.lq m [0,0,1,1,1,1,0,1,1,1,1,1,1,0,1]::rG) Z) (fun _ _ _ _=>k7) (fun m _ ih v0 v1 v2 v3=>k8.trans ((D9 n).2 _ _ ih v0 v1 v2 v3)) m
noncomputable def LJ (n:Nat):{B:Str→Int→Option Int // ∀ (a0:Str) (a1:Int),run (sB n) [.at []] (ini [nh.enc a0,(mK .i32).enc a1] 187)=B a0 a1}:=by
 apply jf
 intro a0 a1
 simp (config:={maxSteps:=100000000}) only[go_sem,iU,iV,iQ,iR,iW,iX,iZ,jc,jd,iT,iY,je,Tryz.f211,iS,mixed,Bu n,Pt n]
 exact rfl
noncomputable def H9:=fu fun n=>(LJ n).1
theorem KB: ∀ (n:Nat) (a0:Str) (a1:Int) (r:Int),H9 n a0 a1=some r→yP Tryz.prog 211 [nh.enc a0,(mK .i32).enc a1] (fun v=>v=(mK .i64).enc r)
 |0,_,_,_,h=>by cases h
 |n+1,a0,a1,r,h=>by
  exact Lc (((LJ n).2 a0 a1).trans h) (gd (kV (qS (Ko n)) (kV (pH (Nb n)) kW)) (s7 (Ad (Ko n)) kX)) Tryz.func211 ⟨nh.nb 0 _,(mK .i32).nb 0 _,trivial⟩ Tryz.ntmps211 Tryz.results211
@[reducible] noncomputable def UQ (n:Nat):lF Bool:=qv Tryz.prog Tryz.f93 n (qT Tryz.prog [.tmp 4] pQ) (cl:=oS [(136,yR nh nh pQ (Bq n))])
noncomputable def LK (n:Nat):{B:Str→Str→Option Bool // ∀ (a0:Str) (a1:Str),run (UQ n) [.at []] (ini [nh.enc a0,nh.enc a1] 8)=B a0 a1}:=by
 apply jf
 intro a0 a1
 simp (config:={maxSteps:=100000000}) only[go_sem,iU,iV,iQ,iR,iW,iX,iZ,jc,jd,iT,iY,je,Tryz.f93,iS,mixed]
 exact rfl
noncomputable def NS:=fu fun n=>(LK n).1
theorem SI: ∀ (n:Nat) (a0:Str) (a1:Str) (r:Bool),NS n a0 a1=some r→yP Tryz.prog 93 [nh.enc a0,nh.enc a1] (fun v=>v=pQ.enc r)
 |0,_,_,_,h=>by cases h
 |n+1,a0,a1,r,h=>by
  exact Lc (((LK n).2 a0 a1).trans h) (gd (kV (qS (Hl n)) kW) kX) Tryz.func93 ⟨nh.nb 0 _,nh.nb 0 _,trivial⟩ Tryz.ntmps93 Tryz.results93
end Go.Abs
namespace Go.Abs
open Go.Proofs
set_option maxRecDepth 100000
set_option maxHeartbeats 4000000
@[reducible] noncomputable def KC (n:Nat):lF Int:=qv Tryz.prog Tryz.f58 n (qT Tryz.prog [.tmp 2] (mK .i64)) (cd:=Pd [(56,rS (qR (zZ kN.cel) (lK Token.cel) (mh n)))]) (AZ:=mU []) (AY:=mU [])
theorem SJ (n:Nat):nP (KC n) [0,1]=true:=by kernel_rfl
attribute [go_sem] SJ
noncomputable def KD (n:Nat):{B:kN→Option Int // ∀ (a0:kN),run (KC n) [.at []] (ini [(zZ kN.cel).enc a0] 11)=B a0}:=by
 apply jf
 intro a0
 simp (config:={maxSteps:=100000000}) only[go_sem,iU,iV,iQ,iR,iW,iX,iZ,jc,jd,iT,iY,je,Tryz.f58,iS,mixed]
 exact rfl
noncomputable def tu:=fu fun n=>(KD n).1
theorem sJ: ∀ (n:Nat) (a0:kN) (r:Int),tu n a0=some r→yP Tryz.prog 58 [(zZ kN.cel).enc a0] (fun v=>v=(mK .i64).enc r)
 |0,_,_,h=>by cases h
 |n+1,a0,r,h=>by
  exact Lc (((KD n).2 a0).trans h) (gd kW (s7 (nG (lZ n)) kX)) Tryz.func58 ⟨(zZ kN.cel).nb 0 _,trivial⟩ Tryz.ntmps58 Tryz.results58
@[reducible] noncomputable def Eb (n:Nat):lF (Tb×(Str×Unit)):=qv Tryz.prog Tryz.f59 n (outG Tryz.prog [.tmp 2] (wP (Ay kN.cel) vc) (NI nh Ke) 1) (cl:=oS [(56,entV (rS (qR (zZ kN.cel) (lK Token.cel) (mh n))))]) (AZ:=mU []) (AY:=mU [])
theorem SK (n:Nat):nP (Eb n) [0,0,1,1]=true:=by kernel_rfl
attribute [go_sem] SK
noncomputable def KE (n:Nat):{B:kN→Option (Tb×(Str×Unit)) // ∀ (a0:kN),run (Eb n) [.at []] (ini ((Od 0 L3).enc (a0,()) ()) 26 ((wP (Ay kN.cel) vc).enc (a0,())))=B a0}:=by
 apply jf
 intro a0
 simp (config:={maxSteps:=100000000}) only[go_sem,iU,iV,iQ,iR,iW,iX,iZ,jc,jd,iT,iY,je,Tryz.f59,iS,mixed]
 exact rfl
noncomputable def l8:=fu fun n=>(KE n).1
theorem lU: ∀ (n:Nat) (a0:kN) (r:(Tb×(Str×Unit))),l8 n a0=some r→ZW Tryz.prog 59 ((Od 0 L3).enc (a0,()) ()) ((wP (Ay kN.cel) vc).enc (a0,())) (fun o H'=>o= .ret (s9 ((NI nh Ke).enc r.1 r.2))∧H'=(wP (Ay kN.cel) vc).enc r.1)
 |0,_,_,h=>by cases h
 |n+1,a0,r,h=>by
  exact Dx (M:=Eb n) ⟨(kV (oa (nG (lZ n))) kW),kX,rz _,rA _,wh,wk,yz,xZ⟩ Tryz.func59 rfl rfl (by simp only[go_sem,iU,iV,iQ,iR,iW,iX,iZ,jc,jd,iT,iY,je]) ((wP (Ay kN.cel) vc).nb _ _) Tryz.ntmps59 Tryz.results59 (fun σ hs=>Yp hs) (((KE n).2 a0).trans h)
@[reducible] noncomputable def VO (n:Nat):lF Bool:=qv Tryz.prog Tryz.f74 n (qT Tryz.prog [.tmp 6] pQ) (cl:=oS [(56,qR (zZ kN.cel) (lK Token.cel) (mh n))])
noncomputable def MD (n:Nat):{B:kN→Int→Str→Option Bool // ∀ (a0:kN) (a1:Int) (a2:Str),run (VO n) [.at []] (ini [(zZ kN.cel).enc a0,(mK .i64).enc a1,nh.enc a2] 20)=B a0 a1 a2}:=by
 apply jf
 intro a0 a1 a2
 simp (config:={maxSteps:=100000000}) only[go_sem,iU,iV,iQ,iR,iW,iX,iZ,jc,jd,iT,iY,je,Tryz.f74,iS,mixed]
 exact rfl
noncomputable def yT:=fu fun n=>(MD n).1
theorem yg: ∀ (n:Nat) (a0:kN) (a1:Int) (a2:Str) (r:Bool),yT n a0 a1 a2=some r→yP Tryz.prog 74 [(zZ kN.cel).enc a0,(mK .i64).enc a1,nh.enc a2] (fun v=>v=pQ.enc r)
 |0,_,_,_,_,h=>by cases h
 |n+1,a0,a1,a2,r,h=>by
  exact Lc (((MD n).2 a0 a1 a2).trans h) (gd (kV (pH (lZ n)) kW) kX) Tryz.func74 ⟨(zZ kN.cel).nb 0 _,(mK .i64).nb 0 _,nh.nb 0 _,trivial⟩ Tryz.ntmps74 Tryz.results74
@[reducible] noncomputable def QF (n:Nat):lF Bool:=qv Tryz.prog Tryz.f159 n (qT Tryz.prog [.tmp 2] pQ) (cl:=oS [(56,qR (zZ kN.cel) (lK Token.cel) (mh n)),(166,yR nh nh pQ (strings_Contains n))])
noncomputable def Ia (n:Nat):{B:kN→Option Bool // ∀ (a0:kN),run (QF n) [.at []] (ini [(zZ kN.cel).enc a0] 15)=B a0}:=by
 apply jf
 intro a0
 simp (config:={maxSteps:=100000000}) only[go_sem,iU,iV,iQ,iR,iW,iX,iZ,jc,jd,iT,iY,je,Tryz.f159,iS,mixed]
 exact rfl
noncomputable def An:=fu fun n=>(Ia n).1
theorem Bv: ∀ (n:Nat) (a0:kN) (r:Bool),An n a0=some r→yP Tryz.prog 159 [(zZ kN.cel).enc a0] (fun v=>v=pQ.enc r)
 |0,_,_,h=>by cases h
 |n+1,a0,r,h=>by
  exact Lc (((Ia n).2 a0).trans h) (gd (kV (pH (lZ n)) (kV (qS (Fe n)) kW)) kX) Tryz.func159 ⟨(zZ kN.cel).nb 0 _,trivial⟩ Tryz.ntmps159 Tryz.results159
noncomputable def Pu:DO:=⟨[],[],(zA::zK::zK::ow (ow (zA::zA::zA::zK::zK::nr (nr (nr (zA::zA::[])))))),[oC [zK,zK,zK,zK,zK,zK,zK,zK],oK,oA nq,oA kO.row,oA Syntax.row],none,none⟩
noncomputable def Pv:DO:=⟨[],[],(zA::zK::zK::nr (nr (nr (zK::zK::ow (ow (nr (zA::[]))))))),[oC [zK,zK,zK,zK,zK,zT (nj Syntax.row),zK,zK],oK,oA nq,oA kO.row],none,none⟩
@[reducible] noncomputable def mZ (X:Syntax→Option Syntax) (n:Nat):lF Syntax:=qv Tryz.prog Tryz.f160 n (qT Tryz.prog [.cell 2 29] (lK Syntax.cel)) (cl:=oS [(191,entG [] vc (XB (nj nq) L3) (wP (Zi true nq) vc) (rsA 0 (fun (b:To)=>b.1.length) Ke) (fun (b:Unit) a=>(I0 n) a.1)),(192,entG [] vc (XB (nj kO.row) L3) (wP (Zi false kO.row) vc) (rsA 0 (fun (b:(Te×Unit))=>b.1.length) Ke) (fun (b:Unit) a=>(D4 n) a.1)),(194,entG [] vc (XB (nj Syntax.row) L3) (wP (Zi false Syntax.row) vc) (rsA 0 (fun (b:TF)=>b.1.length) Ke) (fun (b:Unit) a=>(I1 n) a.1))]) (cd:=Pd [(160,rS (qR (lK Syntax.cel) (lK Syntax.cel) X)),(193,rS (qR (nj kR.row) (nj kR.row) (HQ n)))]) (wU:=vR [([0,1,0,1,1,1,1,1],Pu),([0,1,0,1,1,1],Pv)]) (cut:=UF [([1,1,1,1,1,1],[3,4])]) (AZ:=mU []) (AY:=mU [])
theorem X9 (X:Syntax→Option Syntax) (n:Nat):nP (mZ X n) [1,0,0,1,1,0,0,1,0,1,1,1]=true∧nP (mZ X n) [1,0,0,1,1,0,0,1,0,1,1,1,1,1]=true:=⟨by kernel_rfl,by kernel_rfl⟩
theorem Ya (X:Syntax→Option Syntax) (n:Nat):lS (mZ X n) [1,0,0,1,1,0,0,1,0,1,1,1] 1 12=true∧lS (mZ X n) [1,0,0,1,1,0,0,1,0,1,1,1] 4 12=true∧lS (mZ X n) [1,0,0,1,1,0,0,1,0,1,1,1] 6 12=true∧lS (mZ X n) [1,0,0,1,1,0,0,1,0,1,1,1] 8 12=true∧lS (mZ X n) [1,0,0,1,1,0,0,1,0,1,1,1] 10 12=true∧lS (mZ X n) [1,0,0,1,1,0,0,1,0,1,1,1,1,1] 1 10=true∧lS (mZ X n) [1,0,0,1,1,0,0,1,0,1,1,1,1,1] 4 10=true∧lS (mZ X n) [1,0,0,1,1,0,0,1,0,1,1,1,1,1] 6 10=true∧lS (mZ X n) [1,0,0,1,1,0,0,1,0,1,1,1,1,1] 7 10=true∧lS (mZ X n) [1,0,0,1,1,0,0,1,0,1,1,1,1,1] 9 10=true:=⟨by kernel_rfl,by kernel_rfl,by kernel_rfl,by kernel_rfl,by kernel_rfl,by kernel_rfl,by kernel_rfl,by kernel_rfl,by kernel_rfl,by kernel_rfl⟩
attribute [go_sem] X9 Ya Pu Pv
noncomputable abbrev JK (v0:Int) (v1:Int) (v2:Int) (v3:Str) (v4:Int) (v5:Int) (v6:Int) (r2:List Str) (r3:List kO) (r4:List Syntax) (c2:Nat) (c3:Nat) (c4:Nat):AState:=⟨(qA:: .ptr 0 0:: .ptr 1 0::oJ (oJ (qA::qA::qA:: .int .i64 v0:: .int .i64 v1::nQ (nQ (nQ (qA::qA::[])))))),[.cells [.int .i64 v2,.str (sb v3),.int .i64 v4,.acc 2 c2,.acc 3 c3,.acc 4 c4,.int .i64 v5,.int .i64 v6],.cells [.int .i64 0,.str (sb []),.int .i64 0,.l5 true 0 [],.l5 true 0 [],.l5 true 0 [],.int .i64 0,.int .i64 0],.acc true 1 (mp mo r2),.acc false 2 (mp kO.cells r3),.acc false 8 (mp Syntax.cells r4)],0,[]⟩
abbrev EM:=Int→Int→Int→Str→Int→Int→Int→(List Str)→Te→(List Syntax)→Option Syntax
abbrev JL (X:Syntax→Option Syntax) (n:Nat) (K:List Kt) (Z:EM):Prop:= ∀ (v0:Int) (v1:Int) (v2:Int) (v3:Str) (v4:Int) (v5:Int) (v6:Int) (r2:List Str) (r3:List kO) (r4:List Syntax) (c2:Nat) (c3:Nat) (c4:Nat),c2=r2.length→c3=r3.length→c4=r4.length→run (mZ X n) K (JK v0 v1 v2 v3 v4 v5 v6 r2 r3 r4 c2 c3 c4)=Z v0 v1 v2 v3 v4 v5 v6 r2 r3 r4
noncomputable abbrev JM (v0:Int) (v1:Int) (v2:Int) (v3:Str) (v4:Int) (v5:List Syntax) (v6:Int) (v7:Int) (r2:List Str) (r3:List kO) (c2:Nat) (c3:Nat):AState:=⟨(qA:: .ptr 0 0:: .ptr 1 0::nQ (nQ (nQ (.int .i64 v0:: .int .i64 v1::oJ (oJ (nQ (qA::[]))))))),[.cells [.int .i64 v2,.str (sb v3),.int .i64 v4,.acc 2 c2,.acc 3 c3,.l5 false 8 (mp Syntax.cells v5),.int .i64 v6,.int .i64 v7],.cells [.int .i64 0,.str (sb []),.int .i64 0,.l5 true 0 [],.l5 true 0 [],.l5 true 0 [],.int .i64 0,.int .i64 0],.acc true 1 (mp mo r2),.acc false 2 (mp kO.cells r3)],0,[]⟩
abbrev EN:=Int→Int→Int→Str→Int→(List Syntax)→Int→Int→(List Str)→Te→Option Syntax
abbrev JN (X:Syntax→Option Syntax) (n:Nat) (K:List Kt) (Z:EN):Prop:= ∀ (v0:Int) (v1:Int) (v2:Int) (v3:Str) (v4:Int) (v5:List Syntax) (v6:Int) (v7:Int) (r2:List Str) (r3:List kO) (c2:Nat) (c3:Nat),c2=r2.length→c3=r3.length→run (mZ X n) K (JM v0 v1 v2 v3 v4 v5 v6 v7 r2 r3 c2 c3)=Z v0 v1 v2 v3 v4 v5 v6 v7 r2 r3
attribute [go_sem] JK JM
noncomputable def JO (X:Syntax→Option Syntax) (n:Nat):{B:EM→EM // ∀m X0,JL X n (.lq m [0,1,0,1,1,1,1,1]::[.blk 2,.cut [1,1,1,1,1,1],.at [1,1,1,1,1,1]]) X0→ ∀ (v0:Int) (v1:Int) (v2:Int) (v3:Str) (v4:Int) (v5:Int) (v6:Int) (r2:List Str) (r3:List kO) (r4:List Syntax),run (mZ X n) (.at [0,0,1,0,1,1,1,1,1]:: .lp m [0,1,0,1,1,1,1,1]::[.blk 2,.cut [1,1,1,1,1,1],.at [1,1,1,1,1,1]]) (JK v0 v1 v2 v3 v4 v5 v6 r2 r3 r4 (r2.length) (r3.length) (r4.length))=B X0 v0 v1 v2 v3 v4 v5 v6 r2 r3 r4}:=by
 apply jf
 intro m X0 ih v0 v1 v2 v3 v4 v5 v6 r2 r3 r4
 simp (config:={maxSteps:=100000000}) only[go_sem,iU,iV,iQ,iR,iW,iX,iZ,jc,jd,iT,iY,je,Tryz.f160,iS,mixed,ih]
 exact rfl
noncomputable def JP (X:Syntax→Option Syntax) (n:Nat):Nat→EM:=FH ((JO X n).1)
theorem parser_cloned_l1_s (X:Syntax→Option Syntax) {n:Nat} {m:Nat}:JP X n (m+1)=(JO X n).1 (JP X n m):=rfl
theorem LL (X:Syntax→Option Syntax) (n:Nat) (m:Nat):JL X n (.lq m [0,1,0,1,1,1,1,1]::[.blk 2,.cut [1,1,1,1,1,1],.at [1,1,1,1,1,1]]) (JP X n m):=
 mB (G:=fun m Z=>JL X n (.lq m [0,1,0,1,1,1,1,1]::[.blk 2,.cut [1,1,1,1,1,1],.at [1,1,1,1,1,1]]) Z) (fun _ _ _ _ _ _ _ _ _ _ _ _ _ _ _ _=>k7) (fun m _ ih=>by
  intro v0 v1 v2 v3 v4 v5 v6 r2 r3 r4 c2 c3 c4 ec2 ec3 ec4
  subst ec2
  subst ec3
  subst ec4
  rw[k8]
  exact (JO X n).2 _ _ ih v0 v1 v2 v3 v4 v5 v6 r2 r3 r4) m
noncomputable def JQ (X:Syntax→Option Syntax) (n:Nat):{B:EN→EN // ∀m X0,JN X n (.lq m [0,1,0,1,1,1]::[.blk 0,.cut [1,1,1,1],.at [1,1,1,1]]) X0→ ∀ (v0:Int) (v1:Int) (v2:Int) (v3:Str) (v4:Int) (v5:List Syntax) (v6:Int) (v7:Int) (r2:List Str) (r3:List kO),run (mZ X n) (.at [0,0,1,0,1,1,1]:: .lp m [0,1,0,1,1,1]::[.blk 0,.cut [1,1,1,1],.at [1,1,1,1]]) (JM v0 v1 v2 v3 v4 v5 v6 v7 r2 r3 (r2.length) (r3.length))=B X0 v0 v1 v2 v3 v4 v5 v6 v7 r2 r3}:=by
 apply jf
 intro m X0 ih v0 v1 v2 v3 v4 v5 v6 v7 r2 r3
 simp (config:={maxSteps:=100000000}) only[go_sem,iU,iV,iQ,iR,iW,iX,iZ,jc,jd,iT,iY,je,Tryz.f160,iS,mixed,LL X n,ih]
 exact rfl
noncomputable def JR (X:Syntax→Option Syntax) (n:Nat):Nat→EN:=FH ((JQ X n).1)
theorem parser_cloned_l2_s (X:Syntax→Option Syntax) {n:Nat} {m:Nat}:JR X n (m+1)=(JQ X n).1 (JR X n m):=rfl
theorem UR (X:Syntax→Option Syntax) (n:Nat) (m:Nat):JN X n (.lq m [0,1,0,1,1,1]::[.blk 0,.cut [1,1,1,1],.at [1,1,1,1]]) (JR X n m):=
 mB (G:=fun m Z=>JN X n (.lq m [0,1,0,1,1,1]::[.blk 0,.cut [1,1,1,1],.at [1,1,1,1]]) Z) (fun _ _ _ _ _ _ _ _ _ _ _ _ _ _=>k7) (fun m _ ih=>by
  intro v0 v1 v2 v3 v4 v5 v6 v7 r2 r3 c2 c3 ec2 ec3
  subst ec2
  subst ec3
  rw[k8]
  exact (JQ X n).2 _ _ ih v0 v1 v2 v3 v4 v5 v6 v7 r2 r3) m
noncomputable def Rp (X:Syntax→Option Syntax) (n:Nat):{B:Syntax→Option Syntax // ∀ (a0:Syntax),run (mZ X n) [.at []] (ini [(lK Syntax.cel).enc a0] 54)=B a0}:=by
 apply jf
 intro a0
 simp (config:={maxSteps:=100000000}) only[go_sem,iU,iV,iQ,iR,iW,iX,iZ,jc,jd,iT,iY,je,Tryz.f160,iS,mixed,LL X n,UR X n]
 exact rfl
noncomputable def JZ:Nat→Syntax→Option Syntax
 |0,_=>none
 |n+1,a0=>(Rp (JZ n) n).1 a0
theorem Pw: ∀ (n:Nat) (a0:Syntax) (r:Syntax),JZ n a0=some r→yP Tryz.prog 160 [(lK Syntax.cel).enc a0] (fun v=>v=(lK Syntax.cel).enc r)
 |0,_,_,h=>by cases h
 |n+1,a0,r,h=>by
  have Xi:=Pw n
  exact Lc (((Rp (JZ n) n).2 a0).trans h) (gd (kV (oI (fun b a r h=>(Ol n) a.1 r h)) (kV (oI (fun b a r h=>(Ks n) a.1 r h)) (kV (oI (fun b a r h=>(Oo n) a.1 r h)) kW))) (s7 (nG (Xi)) (s7 (nG (Ng n)) kX))) Tryz.func160 ⟨(lK Syntax.cel).nb 0 _,trivial⟩ Tryz.ntmps160 Tryz.results160
@[reducible] noncomputable def tD (n:Nat):lF (Tb×(Syntax×Unit)):=qv Tryz.prog Tryz.f120 n (outG Tryz.prog [.cell 2 29] (wP (Ay kN.cel) vc) (NI (lK Syntax.cel) Ke) 1) (co:=Na [(157,entVC (rS (qR (zZ kN.cel) (mK .i64) (sC n))))]) (AZ:=mU [157]) (AY:=mU [])
theorem SL (n:Nat):nP (tD n) [0,1]=true:=by kernel_rfl
theorem SM (n:Nat):lS (tD n) [0,1] 3 7=true∧lS (tD n) [0,1] 3 9=true∧lS (tD n) [0,1] 7 9=true:=⟨by kernel_rfl,by kernel_rfl,by kernel_rfl⟩
attribute [go_sem] SL SM
noncomputable def KF (n:Nat):{B:kN→Option (Tb×(Syntax×Unit)) // ∀ (a0:kN),run (tD n) [.at []] (ini ((Od 0 L3).enc (a0,()) ()) 12 ((wP (Ay kN.cel) vc).enc (a0,())))=B a0}:=by
 apply jf
 intro a0
 simp (config:={maxSteps:=100000000,implicitDefEqProofs:=false}) only[go_sem,iU,iV,iQ,iR,iW,iX,iZ,jc,jd,iT,iY,je,Tryz.f120,iS,mixed]
 exact rfl
noncomputable def Gs:=fu fun n=>(KF n).1
theorem Ja: ∀ (n:Nat) (a0:kN) (r:(Tb×(Syntax×Unit))),Gs n a0=some r→ZW Tryz.prog 120 ((Od 0 L3).enc (a0,()) ()) ((wP (Ay kN.cel) vc).enc (a0,())) (fun o H'=>o= .ret (s9 ((NI (lK Syntax.cel) Ke).enc r.1 r.2))∧H'=(wP (Ay kN.cel) vc).enc r.1)
 |0,_,_,h=>by cases h
 |n+1,a0,r,h=>by
  exact Dx (M:=tD n) ⟨kW,kX,rz _,rA _,wh,wk,yz,(mW (Kh (nG (rF n))) tA)⟩ Tryz.func120 rfl rfl (by simp only[go_sem,iU,iV,iQ,iR,iW,iX,iZ,jc,jd,iT,iY,je]) ((wP (Ay kN.cel) vc).nb _ _) Tryz.ntmps120 Tryz.results120 (fun σ hs=>Yp hs) (((KF n).2 a0).trans h)
end Go.Abs
namespace Go.Abs
open Go.Proofs
set_option maxRecDepth 100000
set_option maxHeartbeats 4000000
noncomputable def Ec:DO:=⟨[],[],(zK::zT (zZ (cL kT.row))::zA::zK::nr (nr (nr (zA::zA::zA::[])))),[oL [zA,zA,zA,zK,zA,zK,zA,zA,zA,zA,zA,zA,zA,zA,zA,zA,zA,zA,zA,zA,zA,zA,zA,zA,zA,zA,zA,zA,zA],oT Syntax.cel,oT Syntax.cel],none,none⟩
noncomputable def uo:AL (Ti×Unit):=(u9 0 (lM (zZ (cL kT.row)) kZ))
noncomputable def uq:OL (Unit×Tk):=(lG (ogL0 mY (Ph 3 (lT 1 (alZ (lT 2 (Ph 23 kZ)))))) (lG (mT (ql Syntax.cel 8 kZ)) (lG (mT (ql Syntax.cel 8 kZ)) nM)))
noncomputable def ur:OL TA:=(lG (ogL mY (Ph 3 (lT 1 (alZ (lT 2 (Ph 23 kZ)))))) (lG (mT (ql Syntax.cel 8 kZ)) (lG (mT (ql Syntax.cel 8 kZ)) nM)))
attribute [go_sem] uo uq ur
noncomputable def E3 (F:Ti→Syntax→Syntax→Option (TA×Unit)):=entX [.arg 0 [],.obj 0 3 [],.obj 0 5 []] uq uo ur kZ (fun (b:(Unit×Tk)) (a:(Ti×Unit))=>F a.1 b.2.1.1 b.2.2.1.1)
attribute [go_sem] E3
@[reducible] noncomputable def E4 (n:Nat):lF (TA×Unit):=qv Tryz.prog Tryz.f190 n (EH Tryz.prog [] [] [0,1,2] 3 ur kZ) (wU:=vR [([0,1],Ec)]) (cy:=tabY [(0,entY [.obj 0 3 [],.obj 0 5 []] lO sn nV (lM pQ kZ) (fun (b:(Unit×Tk)) (a:(Int×(kT×Unit)))=>(HR n) a.1 a.2.1 b.2.1.1 b.2.2.1.1))])
attribute [go_sem] Cr Ec
noncomputable abbrev Ed (v0:List kT) (v1:Int) (j0:Int) (o1:Syntax) (o2:Syntax):AState:=⟨(.map 0:: .pp [.l5 false 9 (mp kT.cells v0)]::qA:: .int .i64 v1::nQ (nQ (nQ (qA::qA::qA::[])))),[.loop mY [qA,qA,qA,.ptr 1 0,qA,.ptr 2 0,qA,qA,qA,qA,qA,qA,qA,qA,qA,qA,qA,qA,qA,qA,qA,qA,qA,qA,qA,qA,qA,qA,qA] (stJ mY j0) j0,.cells (Syntax.cells o1),.cells (Syntax.cells o2)],3,[]⟩
abbrev uu:=Ti→Int→Int→Syntax→Syntax→Option (TA×Unit)
abbrev uv (n:Nat) (K:List Kt) (Z:uu):Prop:= ∀ (v0:List kT) (v1:Int) (j0:Int) (o1:Syntax) (o2:Syntax),run (E4 n) K (Ed v0 v1 j0 o1 o2)=Z v0 v1 j0 o1 o2
attribute [go_sem] Ed
noncomputable def zb (n:Nat):{B:uu→uu // ∀m X0,uv n (.lq m [0,1]::[.blk 0]) X0→uv n (.at [0,0,1]:: .lp m [0,1]::[.blk 0]) (B X0)}:=by
 apply jf
 intro m X0 ih v0 v1 j0 o1 o2
 simp (config:={maxSteps:=100000000}) only[go_sem,iU,iV,iQ,iR,iW,iX,iZ,jc,jd,iT,iY,je,Tryz.f190,iS,mixed,ih]
 exact rfl
noncomputable def zc (n:Nat):Nat→uu:=FH ((zb n).1)
theorem Yb {n:Nat} {m:Nat}:zc n (m+1)=(zb n).1 (zc n m):=rfl
theorem KG (n:Nat) (m:Nat):uv n (.lq m [0,1]::[.blk 0]) (zc n m):=
 mB (G:=fun m Z=>uv n (.lq m [0,1]::[.blk 0]) Z) (fun _ _ _ _ _=>k7) (fun m _ ih v0 v1 j0 o1 o2=>k8.trans ((zb n).2 _ _ ih v0 v1 j0 o1 o2)) m
noncomputable def E5 (n:Nat):{B:Ti→Syntax→Syntax→Option (TA×Unit) // ∀ (a0:Ti) (o0:Syntax) (o1:Syntax),run (E4 n) [.at []] (s8 uo uq ((),(o0,()),(o1,()),()) (a0,()) 19)=B a0 o0 o1}:=by
 apply jf
 intro a0 o0 o1
 simp (config:={maxSteps:=100000000}) only[go_sem,iU,iV,iQ,iR,iW,iX,iZ,jc,jd,iT,iY,je,Tryz.f190,iS,mixed,KG n]
 exact rfl
noncomputable def GS:=fu fun n=>(E5 n).1
theorem ME: ∀ (n:Nat) (a0:Ti) (o0:Syntax) (o1:Syntax) (r:(TA×Unit)),GS n a0 o0 o1=some r→SG Tryz.prog 190 uo uq ((),(o0,()),(o1,()),()) (a0,()) ur kZ r
 |0,_,_,_,_,h=>by cases h
 |n+1,a0,o0,o1,r,h=>by
  exact okG (((E5 n).2 a0 o0 o1).trans h) (gd kW kX (y:=(Wn (fun _ _ _ _ _ h=>entY_ok (fun b a r h=>(Nh n) a.1 a.2.1 b.2.1.1 b.2.2.1.1 r h) h) XE))) Tryz.func190 Tryz.ntmps190 Tryz.results190
noncomputable def sP:OL T0:=(lG (mT (ql kN.cel 6 kZ)) nM)
noncomputable def qx:OL T0:=(lG (mT (ql kN.cel 6 kZ)) nM)
attribute [go_sem] sP qx
noncomputable def Px (F:kN→Option TP):=entX [.arg 0 []] sP (lT 0 kZ) qx (lM nh kZ) (fun (b:T0) (a:Unit)=>F b.1.1)
attribute [go_sem] Px
@[reducible] noncomputable def GU (n:Nat):lF TP:=qv Tryz.prog Tryz.f59 n (EH Tryz.prog [.tmp 2] [] [0] 1 qx (lM nh kZ)) (cl:=oS [(56,entV (rS (qR (zZ kN.cel) (lK Token.cel) (mh n))))]) (AZ:=mU []) (AY:=mU [])
theorem Py (n:Nat):nP (GU n) [0,0,1,1]=true:=by kernel_rfl
attribute [go_sem] Py
noncomputable def GV (n:Nat):{B:kN→Option TP // ∀ (o0:kN),run (GU n) [.at []] (s8 (lT 0 kZ) sP ((o0,()),()) () 26)=B o0}:=by
 apply jf
 intro o0
 simp (config:={maxSteps:=100000000}) only[go_sem,iU,iV,iQ,iR,iW,iX,iZ,jc,jd,iT,iY,je,Tryz.f59,iS,mixed]
 exact rfl
noncomputable def Jb:=fu fun n=>(GV n).1
theorem Oy: ∀ (n:Nat) (o0:kN) (r:TP),Jb n o0=some r→SG Tryz.prog 59 (lT 0 kZ) sP ((o0,()),()) () qx (lM nh kZ) r
 |0,_,_,h=>by cases h
 |n+1,o0,r,h=>by
  exact okG (((GV n).2 o0).trans h) (gd (kV (oa (nG (lZ n))) kW) kX) Tryz.func59 Tryz.ntmps59 Tryz.results59
@[reducible] noncomputable def QG (n:Nat):lF Bool:=qv Tryz.prog Tryz.f162 n (qT Tryz.prog [.tmp 2] pQ) (cl:=oS [(56,qR (zZ kN.cel) (lK Token.cel) (mh n))])
noncomputable def Ib (n:Nat):{B:kN→Option Bool // ∀ (a0:kN),run (QG n) [.at []] (ini [(zZ kN.cel).enc a0] 48)=B a0}:=by
 apply jf
 intro a0
 simp (config:={maxSteps:=100000000}) only[go_sem,iU,iV,iQ,iR,iW,iX,iZ,jc,jd,iT,iY,je,Tryz.f162,iS,mixed]
 exact rfl
noncomputable def Ee:=fu fun n=>(Ib n).1
theorem GW: ∀ (n:Nat) (a0:kN) (r:Bool),Ee n a0=some r→yP Tryz.prog 162 [(zZ kN.cel).enc a0] (fun v=>v=pQ.enc r)
 |0,_,_,h=>by cases h
 |n+1,a0,r,h=>by
  exact Lc (((Ib n).2 a0).trans h) (gd (kV (pH (lZ n)) kW) kX) Tryz.func162 ⟨(zZ kN.cel).nb 0 _,trivial⟩ Tryz.ntmps162 Tryz.results162
@[reducible] noncomputable def Oz (n:Nat):lF Bool:=qv Tryz.prog Tryz.f195 n (qT Tryz.prog [.tmp 4] pQ) (cl:=oS [(216,yR (nj nq) nh (mK .i64) (LF n))])
noncomputable def FT (n:Nat):{B:(List Str)→Str→Option Bool // ∀ (a0:(List Str)) (a1:Str),run (Oz n) [.at []] (ini [(nj nq).enc a0,nh.enc a1] 9)=B a0 a1}:=by
 apply jf
 intro a0 a1
 simp (config:={maxSteps:=100000000}) only[go_sem,iU,iV,iQ,iR,iW,iX,iZ,jc,jd,iT,iY,je,Tryz.f195,iS,mixed]
 exact rfl
noncomputable def Cz:=fu fun n=>(FT n).1
theorem E6: ∀ (n:Nat) (a0:(List Str)) (a1:Str) (r:Bool),Cz n a0 a1=some r→yP Tryz.prog 195 [(nj nq).enc a0,nh.enc a1] (fun v=>v=pQ.enc r)
 |0,_,_,_,h=>by cases h
 |n+1,a0,a1,r,h=>by
  exact Lc (((FT n).2 a0 a1).trans h) (gd (kV (qS (Qz n)) kW) kX) Tryz.func195 ⟨(nj nq).nb 0 _,nh.nb 0 _,trivial⟩ Tryz.ntmps195 Tryz.results195
noncomputable def w8:OL T3:=(lG (mT (u9 1 (u9 2 (u9 3 (lM (mK .i64) kZ))))) (lG (yS (lK Notation.cel)) (lG (yS (lK Notation.cel)) (lG Gr nM))))
noncomputable def w9:OL T3:=(lG (mT (u9 1 (u9 2 (u9 3 (lM (mK .i64) kZ))))) (lG (yS (lK Notation.cel)) (lG (yS (lK Notation.cel)) (lG Gr nM))))
noncomputable def xd:OL T3:=(lG (mT (u9 1 (u9 2 (u9 3 (lM (mK .i64) kZ))))) (lG (yS (lK Notation.cel)) (lG (yS (lK Notation.cel)) (lG Gr nM))))
attribute [go_sem] w8 w9 xd
noncomputable def Ic (F:Notation→Int→T9→T9→T5→Option TG):=entXP false [.arg 0 [],.obj 0 0 [],.obj 0 1 [],.obj 0 2 []] w8 (lT 0 (lM (lK Notation.cel) kZ)) w9 (u9 2 (lM nh (lM (nj nq) kZ))) xd (u9 1 (lM nh (lM (nj nq) kZ))) (fun (b:T3) (a:(Notation×Unit))=>F a.1 b.1.1 b.2.1 b.2.2.1 b.2.2.2.1)
attribute [go_sem] Ic
@[reducible] noncomputable def CA (n:Nat):lF TG:=qv Tryz.prog Tryz.f243 n (Zy Tryz.prog [.tmp 4,.tmp 5,.tmp 6] [] [0,1,2,3] 4 w9 (u9 2 (lM nh (lM (nj nq) kZ))) [] xd (u9 1 (lM nh (lM (nj nq) kZ)))) (cl:=oS [(244,qR (lK Notation.cel) pQ (FP n))]) (AZ:=mU []) (AY:=mU [])
theorem QH (n:Nat):nP (CA n) [0,0,1,0,1]=true∧nP (CA n) [0,1,1]=true:=⟨by kernel_rfl,by kernel_rfl⟩
attribute [go_sem] QH
noncomputable def Ie (n:Nat):{B:Notation→Int→T9→T9→T5→Option TG // ∀ (a0:Notation) (o0:Int) (o1:T9) (o2:T9) (o3:T5),run (CA n) [.at []] (s8 (lT 0 (lM (lK Notation.cel) kZ)) w8 ((o0,()),o1,o2,o3,()) (a0,()) 31)=B a0 o0 o1 o2 o3}:=by
 apply jf
 intro a0 o0 o1 o2 o3
 simp (config:={maxSteps:=100000000}) only[go_sem,iU,iV,iQ,iR,iW,iX,iZ,jc,jd,iT,iY,je,Tryz.f243,iS,mixed]
 exact rfl
noncomputable def KH:=fu fun n=>(Ie n).1
theorem Pz: ∀ (n:Nat) (a0:Notation) (o0:Int) (o1:T9) (o2:T9) (o3:T5) (r:TG),KH n a0 o0 o1 o2 o3=some r→SP Tryz.prog 243 (lT 0 (lM (lK Notation.cel) kZ)) w8 ((o0,()),o1,o2,o3,()) (a0,()) false w9 (u9 2 (lM nh (lM (nj nq) kZ))) xd (u9 1 (lM nh (lM (nj nq) kZ))) r
 |0,_,_,_,_,_,_,h=>by cases h
 |n+1,a0,o0,o1,o2,o3,r,h=>by
  exact okS (((Ie n).2 a0 o0 o1 o2 o3).trans h) (gd (kV (pH (EK n)) kW) kX) Tryz.func243 Tryz.ntmps243 Tryz.results243
noncomputable def Wz:DO:=⟨[],[],(zK::zA::zA::zK::zA::zA::zA::zK::zK::ow (nr (nr (nr (zA::zA::[]))))),[],none,none⟩
@[reducible] noncomputable def XL (n:Nat):lF Bool:=qv Tryz.prog Tryz.f260 n (qT Tryz.prog [.tmp 2] pQ) (cl:=oS [(270,qR (mK .u8) pQ (XK n))]) (wU:=vR [([0,1,0,1,1],Wz)])
attribute [go_sem] Wz
noncomputable abbrev WA (v0:Str) (v1:Bool) (v2:Int) (v3:Int):AState:=⟨(.str (sb v0)::qA::qA:: .bool v1::qA::qA::qA:: .int .i64 v2:: .int .i64 v3::oJ (nQ (nQ (nQ (qA::qA::[]))))),[],0,[]⟩
abbrev L8:=Str→Bool→Int→Int→Option Bool
abbrev L9 (n:Nat) (K:List Kt) (Z:L8):Prop:= ∀ (v0:Str) (v1:Bool) (v2:Int) (v3:Int),run (XL n) K (WA v0 v1 v2 v3)=Z v0 v1 v2 v3
attribute [go_sem] WA
noncomputable def QI (n:Nat):{B:L8→L8 // ∀m X0,L9 n (.lq m [0,1,0,1,1]::[.blk 0,.cut [1,1,1],.at [1,1,1]]) X0→L9 n (.at [0,0,1,0,1,1]:: .lp m [0,1,0,1,1]::[.blk 0,.cut [1,1,1],.at [1,1,1]]) (B X0)}:=by
 apply jf
 intro m X0 ih v0 v1 v2 v3
 simp (config:={maxSteps:=100000000}) only[go_sem,iU,iV,iQ,iR,iW,iX,iZ,jc,jd,iT,iY,je,Tryz.f260,iS,mixed,ih]
 exact rfl
noncomputable def QJ (n:Nat):Nat→L8:=FH ((QI n).1)
theorem term_Name_l1_s {n:Nat} {m:Nat}:QJ n (m+1)=(QI n).1 (QJ n m):=rfl
theorem Yc (n:Nat) (m:Nat):L9 n (.lq m [0,1,0,1,1]::[.blk 0,.cut [1,1,1],.at [1,1,1]]) (QJ n m):=
 mB (G:=fun m Z=>L9 n (.lq m [0,1,0,1,1]::[.blk 0,.cut [1,1,1],.at [1,1,1]]) Z) (fun _ _ _ _=>k7) (fun m _ ih v0 v1 v2 v3=>k8.trans ((QI n).2 _ _ ih v0 v1 v2 v3)) m
noncomputable def XM (n:Nat):{B:Str→Option Bool // ∀ (a0:Str),run (XL n) [.at []] (ini [nh.enc a0] 39)=B a0}:=by
 apply jf
 intro a0
 simp (config:={maxSteps:=100000000}) only[go_sem,iU,iV,iQ,iR,iW,iX,iZ,jc,jd,iT,iY,je,Tryz.f260,iS,mixed,Yc n]
 exact rfl
noncomputable def term_Name:=fu fun n=>(XM n).1
theorem term_Name_ok: ∀ (n:Nat) (a0:Str) (r:Bool),term_Name n a0=some r→yP Tryz.prog 260 [nh.enc a0] (fun v=>v=pQ.enc r)
 |0,_,_,h=>by cases h
 |n+1,a0,r,h=>by
  exact Lc (((XM n).2 a0).trans h) (gd (kV (pH (ZD n)) kW) kX) Tryz.func260 ⟨nh.nb 0 _,trivial⟩ Tryz.ntmps260 Tryz.results260
end Go.Abs
