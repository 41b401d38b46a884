/- A part of the proof: the data of the program. -/
import Derived.Test.YtpdbjkgnmjnebaaGreatDoorCoreC
import Derived.Test.YtpdbjkgnmjnebaaGreatDoorCoreD
import Derived.Test.YtpdbjkgnmjnebaaGreatDoorProg
import Derived.KernelRfl
set_option linter.all false
open Go.Proofs.Tryz renaming prog→fB
open Option renaming bind_eq_some_iff→fC
open Option.some renaming injEq→fD
open ByteArray renaming empty→fE
open Bool renaming true_or→fF
open List renaming drop_succ_cons→fG,cons_append→fH,drop_zero→fI,nil_append→fJ,append_nil→fK,map_cons→fL,map_nil→fM,take→fN,drop→fO
namespace Go.Abs
variable {c10 c7 c8 c9:AV}{cs:List AV}{H:List lw}{n:Nat}{O:Type}
set_option maxRecDepth 10000
def ap3(n:Nat)(x:Int):yg n (Xi x):=⟨trivial,trivial⟩
def aEE(n:Nat)(x:Int):yg n (apH x):=⟨trivial,trivial⟩
def GS(n:Nat)(x:lH):yg n (mS x):=⟨trivial,trivial⟩
def awM(n:Nat)(x:Bool):yg n (akT x):=⟨trivial,trivial⟩
def p7{W:Type}{f:W->List AV}{n:Nat}(h:∀x,yg n (f x)):∀xs:List W,Pe n (mp f xs)
 |[]=>by rw[sZ];trivial
 |x::xs=>by have:=p7 h xs;rw[sZ]at this ⊢;exact⟨h x,this⟩
def uU(h:cs.length=n):l3 true n cs=some (.agg cs):=by
 simp only[l3,<-h,Nat.le_refl,kW,List.take_length]
def aEF:(∀(n:Nat)(xs:List Int),Pe n (mp Xi xs)=True)/\(∀(n:Nat)(xs:List Int),Pe n (mp apH xs)=True)/\(∀(n:Nat)(xs:List lH),Pe n (mp mS xs)=True)/\∀(n:Nat)(xs:List Bool),Pe n (mp akT xs)=True:=⟨fun n xs=>eq_true (p7 (ap3 n) xs),fun n xs=>eq_true (p7 (aEE n) xs),fun n xs=>eq_true (p7 (GS n) xs),fun n xs=>eq_true (p7 (awM n) xs)⟩
def aB8:(∀(Y:Nat->Nat)(xs:List Int),JX Y (mp Xi xs)=mp Xi xs)/\(∀(Y:Nat->Nat)(xs:List lH),JX Y (mp mS xs)=mp mS xs)/\∀(Y:Nat->Nat)(xs:List Bool),JX Y (mp akT xs)=mp akT xs:=⟨fun Y xs=>xG Y _ (p7 (ap3 0) xs),fun Y xs=>xG Y _ (p7 (GS 0) xs),fun Y xs=>xG Y _ (p7 (awM 0) xs)⟩
attribute [go_sem] Xi mS akT apH aEF aB8
def Pr {W:Type}{f:O->Option W}{g:W->O}(h:∀x,f (g x)=some x):∀(xs:List W)(i:Nat)(r:O),tU f ((mp g xs).set i r)=bif decide (i<xs.length)then(f r).bind fun y=>some (xs.set i y)else some xs:=by
 intro xs;rw[sZ];induction xs with
 |nil=>intro i r;simp [tU]
 |cons x xs ih=>
  intro i r;cases i with
  |zero=>
   simp only[fL,List.set_cons_zero,tU,apG h,List.length_cons,Nat.zero_lt_succ,decide_true,kP];cases f r<;>rfl
  |succ i=>
   simp only[fL,List.set_cons_succ,tU,h,ih i r,List.length_cons,Nat.succ_lt_succ_iff,Option.bind_some];by_cases hi:i<xs.length
   ·simp only[hi,decide_true,kP];cases f r<;>rfl
   ·simp only[hi,decide_false,kQ];rfl
def aB9:(∀(xs:List Int)(i:Nat)(r:List AV),tU (dI1 .i64) ((mp Xi xs).set i r)=bif decide (i<xs.length)then(dI1 .i64 r).bind fun y=>some (xs.set i y)else some xs)/\(∀(xs:List Bool)(i:Nat)(r:List AV),tU dB1 ((mp akT xs).set i r)=bif decide (i<xs.length)then(dB1 r).bind fun y=>some (xs.set i y)else some xs)/\(∀(xs:List lH)(i:Nat)(r:List AV),tU dS1 ((mp mS xs).set i r)=bif decide (i<xs.length)then(dS1 r).bind fun y=>some (xs.set i y)else some xs):=⟨Pr fun x=>by simp [dI1,Xi,dI],Pr fun x=>rfl,Pr fun x=>rfl⟩
attribute [go_sem] aB9
def asq{W O:Type}{f:O->Option W}{z:O}:∀n:Nat,tU f (List.replicate n z)=bif n==0 then some [] else(f z).bind fun y=>some (List.replicate n y)
 |0=>rfl
 |n+1=>by
  simp only[List.replicate_succ,tU,asq n];cases f z with
  |none=>rfl
  |some y=>cases n<;>rfl
attribute [go_sem] asq
def azw{t:Bool}{z k:Nat}{r BA:List (List AV)}{o:Option O}{x:O}(VV:o=some x->Va r BA)(h:(bif DN z k r then o else none)=some x):Pc (.mj t z r) (.mj false k BA):=by
 cases hs:DN z k r with
 |false=>simp [hs]at h
 |true=>rw[hs]at h;exact adu hs (VV h)
structure k7 where
 parts:List lH
 tW:Int
 HX:Int
 target:lH
def k7.cells(x:k7):List AV:=[.mj false 1 (mp mS x.parts),.int .i64 x.tW,.int .i64 x.HX,.str (sb x.target)]
theorem k7.mr(x:k7):x.cells=[.mj false 1 (mp mS x.parts),.int .i64 x.tW,.int .i64 x.HX,.str (sb x.target)]:=rfl
theorem k7.lB(x:k7):x.cells=[.mj false 1 (mp mS x.parts),.int .i64 x.tW,.int .i64 x.HX,.str (sb x.target)]:=rfl
attribute [irreducible] k7.cells
theorem k7.length(x:k7):x.cells.length=4:=by rw[k7.lB];rfl
def k7.nT(x:k7):x.cells.all AV.nT=true:=by rw[k7.lB];rfl
theorem k7.nb(n:Nat)(x:k7):yg n x.cells:=by
 rw[k7.mr];exact⟨p7 (GS n) _,trivial,trivial,trivial,trivial⟩
def k7.of(H:List lw):List AV->Option k7
 |[c0,c1,c2,c3]=>(dL mJ H c0).bind fun x0=>(dI .i64 c1).bind fun x1=>(dI .i64 c2).bind fun x2=>(dS c3).bind fun x3=>some (.mk x0 x1 x2 x3)
 |_=>none
def k7.qa{c0 c1 c2 c3:AV}:k7.of H [c0,c1,c2,c3]=(dL mJ H c0).bind fun x0=>(dI .i64 c1).bind fun x1=>(dI .i64 c2).bind fun x2=>(dS c3).bind fun x3=>some (.mk x0 x1 x2 x3):=rfl
def k7.mF(H:List lw)(x:k7):k7.of H [.mj false 1 (mp mS x.parts),.int .i64 x.tW,.int .i64 x.HX,.str (sb x.target)]=some x:=by
 simp only[k7.qa,Bt,w8,GP,qF,DN,beq_self_eq_true,fF,kP,dL,Dz,adv]
 try (cases x;rfl)
theorem k7.ow(H:List lw)(x:k7):k7.of H x.cells=some x:=by rw[k7.lB];exact k7.mF H x
def k7.qX{x:k7}(h:k7.of H cs=some x):nI H n cs x.cells:=by
 unfold k7.of at h;split at h
 ·simp only[fC,fD]at h;obtain⟨x0,h0,x1,h1,x2,h2,x3,h3,rfl⟩:=h;rw[k7.mr];exact(nI.cons (Cj h0) (nI.cons (xT h1) (nI.cons (xT h2) (nI.cons (S6 h3) nI.nil))))
 ·cases h
def k7.lU:VZ k7:=⟨k7.cells,k7.of,fun _ _ _ _ h=>k7.qX h,k7.nb⟩
def k7.row:Row k7:=⟨k7.cells,k7.of [],4,fun _ _ h=>(k7.qX (n:=0) h).qk,k7.nb⟩
def k7.nO(xs:List k7):tU (k7.of []) (mp k7.cells xs)=some xs:=Ci (k7.ow []) xs
def k7.xp:k7.row.enc=k7.cells/\k7.row.oP=k7.of []/\k7.row.sz=4/\k7.lU.enc=k7.cells/\k7.lU.oP=k7.of:=⟨rfl,rfl,rfl,rfl,rfl⟩
attribute [go_sem] k7.qa k7.ow k7.nO k7.xp
def k7.WN:(∀(y0:List lH)(y1:Int)(y2:Int)(y3:lH),(k7.mk y0 y1 y2 y3).parts=y0)/\(∀(y0:List lH)(y1:Int)(y2:Int)(y3:lH),(k7.mk y0 y1 y2 y3).tW=y1)/\(∀(y0:List lH)(y1:Int)(y2:Int)(y3:lH),(k7.mk y0 y1 y2 y3).HX=y2)/\(∀(y0:List lH)(y1:Int)(y2:Int)(y3:lH),(k7.mk y0 y1 y2 y3).target=y3):=⟨fun _ _ _ _=>rfl,fun _ _ _ _=>rfl,fun _ _ _ _=>rfl,fun _ _ _ _=>rfl⟩
attribute [go_sem] k7.WN
def k7.nbs:(∀(n:Nat)(x:k7),Go.Abs.yg n x.cells=True)/\∀(n:Nat)(xs:List k7),Go.Abs.Pe n (mp k7.cells xs)=True:=⟨fun n x=>eq_true (k7.nb n x),fun n xs=>eq_true (p7 (k7.nb n) xs)⟩
def k7.adH:(∀(Y:Nat->Nat)(x:k7),vC Y x.cells=x.cells)/\∀(Y:Nat->Nat)(xs:List k7),JX Y (mp k7.cells xs)=mp k7.cells xs:=⟨fun Y x=>tJ Y _ (k7.nb 0 x),fun Y xs=>xG Y _ (p7 (k7.nb 0) xs)⟩
def k7.vw(H:List lw)(x:k7):vwL H x.cells=some (x.cells,[]):=L1 H _ (k7.nb 0 x)
attribute [go_sem] k7.vw
def k7.reads:
 (∀x:k7,cellsOf (.agg x.cells)=some x.cells)/\
 (∀x:k7,l3 true 4 x.cells=some (.agg x.cells))/\
 (∀x:k7,l3 false 1 x.cells=some (.mj false 1 (mp mS x.parts)))/\
 (∀x:k7,l3 false 1 (x.cells.drop 1)=some (.int .i64 x.tW))/\
 (∀x:k7,l3 false 1 (x.cells.drop 2)=some (.int .i64 x.HX))/\
 (∀x:k7,l3 false 1 (x.cells.drop 3)=some (.str (sb x.target))):=
 ⟨fun x=>by simp only[cellsOf,k7.nT,kW],
  fun x=>uU (k7.length x),
  fun x=>by rw[k7.lB];rfl,
  fun x=>by rw[k7.lB];rfl,
  fun x=>by rw[k7.lB];rfl,
  fun x=>by rw[k7.lB];rfl⟩
def k7.atX(x:k7)(o:Nat)(xs:List AV):z1 x.cells o xs=z1 [.mj false 1 (mp mS x.parts),.int .i64 x.tW,.int .i64 x.HX,.str (sb x.target)] o xs:=by rw[k7.lB]
attribute [go_sem] k7.nbs k7.adH k7.reads k7.length k7.nT
attribute [go_sem low] k7.atX
structure lz where
 name:lH
 plus:Int
def lz.cells(x:lz):List AV:=[.str (sb x.name),.int .i64 x.plus]
theorem lz.mr(x:lz):x.cells=[.str (sb x.name),.int .i64 x.plus]:=rfl
theorem lz.lB(x:lz):x.cells=[.str (sb x.name),.int .i64 x.plus]:=rfl
attribute [irreducible] lz.cells
theorem lz.length(x:lz):x.cells.length=2:=by rw[lz.lB];rfl
def lz.nT(x:lz):x.cells.all AV.nT=true:=by rw[lz.lB];rfl
theorem lz.nb(n:Nat)(x:lz):yg n x.cells:=by
 rw[lz.mr];exact⟨trivial,trivial,trivial⟩
def lz.of(H:List lw):List AV->Option lz
 |[c0,c1]=>(dS c0).bind fun x0=>(dI .i64 c1).bind fun x1=>some (.mk x0 x1)
 |_=>none
def lz.qa{c0 c1:AV}:lz.of H [c0,c1]=(dS c0).bind fun x0=>(dI .i64 c1).bind fun x1=>some (.mk x0 x1):=rfl
def lz.mF(H:List lw)(x:lz):lz.of H [.str (sb x.name),.int .i64 x.plus]=some x:=by
 simp only[lz.qa,Bt,w8,GP,qF,DN,beq_self_eq_true,fF,kP,dL]
 try (cases x;rfl)
theorem lz.ow(H:List lw)(x:lz):lz.of H x.cells=some x:=by rw[lz.lB];exact lz.mF H x
def lz.qX{x:lz}(h:lz.of H cs=some x):nI H n cs x.cells:=by
 unfold lz.of at h;split at h
 ·simp only[fC,fD]at h;obtain⟨x0,h0,x1,h1,rfl⟩:=h;rw[lz.mr];exact(nI.cons (S6 h0) (nI.cons (xT h1) nI.nil))
 ·cases h
def lz.lU:VZ lz:=⟨lz.cells,lz.of,fun _ _ _ _ h=>lz.qX h,lz.nb⟩
def lz.row:Row lz:=⟨lz.cells,lz.of [],2,fun _ _ h=>(lz.qX (n:=0) h).qk,lz.nb⟩
def lz.nO(xs:List lz):tU (lz.of []) (mp lz.cells xs)=some xs:=Ci (lz.ow []) xs
def lz.Pr(xs:List lz)(i:Nat)(r:List AV):tU (lz.of []) ((mp lz.cells xs).set i r)=bif decide (i<xs.length)then(lz.of [] r).bind fun y=>some (xs.set i y)else some xs:=Go.Abs.Pr (lz.ow []) xs i r
attribute [go_sem low] lz.Pr
def lz.xp:lz.row.enc=lz.cells/\lz.row.oP=lz.of []/\lz.row.sz=2/\lz.lU.enc=lz.cells/\lz.lU.oP=lz.of:=⟨rfl,rfl,rfl,rfl,rfl⟩
attribute [go_sem] lz.qa lz.ow lz.nO lz.xp
def lz.WN:(∀(y0:lH)(y1:Int),(lz.mk y0 y1).name=y0)/\(∀(y0:lH)(y1:Int),(lz.mk y0 y1).plus=y1):=⟨fun _ _=>rfl,fun _ _=>rfl⟩
attribute [go_sem] lz.WN
def lz.nbs:(∀(n:Nat)(x:lz),Go.Abs.yg n x.cells=True)/\∀(n:Nat)(xs:List lz),Go.Abs.Pe n (mp lz.cells xs)=True:=⟨fun n x=>eq_true (lz.nb n x),fun n xs=>eq_true (p7 (lz.nb n) xs)⟩
def lz.adH:(∀(Y:Nat->Nat)(x:lz),vC Y x.cells=x.cells)/\∀(Y:Nat->Nat)(xs:List lz),JX Y (mp lz.cells xs)=mp lz.cells xs:=⟨fun Y x=>tJ Y _ (lz.nb 0 x),fun Y xs=>xG Y _ (p7 (lz.nb 0) xs)⟩
def lz.reads:
 (∀x:lz,cellsOf (.agg x.cells)=some x.cells)/\
 (∀x:lz,l3 true 2 x.cells=some (.agg x.cells))/\
 (∀x:lz,l3 false 1 x.cells=some (.str (sb x.name)))/\
 (∀x:lz,l3 false 1 (x.cells.drop 1)=some (.int .i64 x.plus)):=
 ⟨fun x=>by simp only[cellsOf,lz.nT,kW],
  fun x=>uU (lz.length x),
  fun x=>by rw[lz.lB];rfl,
  fun x=>by rw[lz.lB];rfl⟩
def lz.atX(x:lz)(o:Nat)(xs:List AV):z1 x.cells o xs=z1 [.str (sb x.name),.int .i64 x.plus] o xs:=by rw[lz.lB]
attribute [go_sem] lz.nbs lz.adH lz.reads lz.length lz.nT
attribute [go_sem low] lz.atX
structure ld where
 alb:Bool
 A8:List lz
def ld.cells(x:ld):List AV:=[.bool x.alb,.mj false 2 (mp lz.cells x.A8)]
theorem ld.mr(x:ld):x.cells=[.bool x.alb,.mj false 2 (mp lz.cells x.A8)]:=rfl
theorem ld.lB(x:ld):x.cells=[.bool x.alb,.mj false 2 (mp lz.cells x.A8)]:=rfl
attribute [irreducible] ld.cells
theorem ld.length(x:ld):x.cells.length=2:=by rw[ld.lB];rfl
def ld.nT(x:ld):x.cells.all AV.nT=true:=by rw[ld.lB];rfl
theorem ld.nb(n:Nat)(x:ld):yg n x.cells:=by
 rw[ld.mr];exact⟨trivial,p7 (lz.nb n) _,trivial⟩
def ld.of(H:List lw):List AV->Option ld
 |[c0,c1]=>(dB c0).bind fun x0=>(dL lz.row H c1).bind fun x1=>some (.mk x0 x1)
 |_=>none
def ld.qa{c0 c1:AV}:ld.of H [c0,c1]=(dB c0).bind fun x0=>(dL lz.row H c1).bind fun x1=>some (.mk x0 x1):=rfl
def ld.mF(H:List lw)(x:ld):ld.of H [.bool x.alb,.mj false 2 (mp lz.cells x.A8)]=some x:=by
 simp only[ld.qa,Bt,w8,GP,qF,DN,beq_self_eq_true,fF,kP,dL,lz.nO,lz.row]
 try (cases x;rfl)
theorem ld.ow(H:List lw)(x:ld):ld.of H x.cells=some x:=by rw[ld.lB];exact ld.mF H x
def ld.qX{x:ld}(h:ld.of H cs=some x):nI H n cs x.cells:=by
 unfold ld.of at h;split at h
 ·simp only[fC,fD]at h;obtain⟨x0,h0,x1,h1,rfl⟩:=h;rw[ld.mr];exact(nI.cons (akS h0) (nI.cons (Cj h1) nI.nil))
 ·cases h
def ld.lU:VZ ld:=⟨ld.cells,ld.of,fun _ _ _ _ h=>ld.qX h,ld.nb⟩
def ld.row:Row ld:=⟨ld.cells,ld.of [],2,fun _ _ h=>(ld.qX (n:=0) h).qk,ld.nb⟩
def ld.nO(xs:List ld):tU (ld.of []) (mp ld.cells xs)=some xs:=Ci (ld.ow []) xs
def ld.Pr(xs:List ld)(i:Nat)(r:List AV):tU (ld.of []) ((mp ld.cells xs).set i r)=bif decide (i<xs.length)then(ld.of [] r).bind fun y=>some (xs.set i y)else some xs:=Go.Abs.Pr (ld.ow []) xs i r
attribute [go_sem low] ld.Pr
def ld.xp:ld.row.enc=ld.cells/\ld.row.oP=ld.of []/\ld.row.sz=2/\ld.lU.enc=ld.cells/\ld.lU.oP=ld.of:=⟨rfl,rfl,rfl,rfl,rfl⟩
attribute [go_sem] ld.qa ld.ow ld.nO ld.xp
def ld.WN:(∀(y0:Bool)(y1:List lz),(ld.mk y0 y1).alb=y0)/\(∀(y0:Bool)(y1:List lz),(ld.mk y0 y1).A8=y1):=⟨fun _ _=>rfl,fun _ _=>rfl⟩
attribute [go_sem] ld.WN
def ld.nbs:(∀(n:Nat)(x:ld),Go.Abs.yg n x.cells=True)/\∀(n:Nat)(xs:List ld),Go.Abs.Pe n (mp ld.cells xs)=True:=⟨fun n x=>eq_true (ld.nb n x),fun n xs=>eq_true (p7 (ld.nb n) xs)⟩
def ld.adH:(∀(Y:Nat->Nat)(x:ld),vC Y x.cells=x.cells)/\∀(Y:Nat->Nat)(xs:List ld),JX Y (mp ld.cells xs)=mp ld.cells xs:=⟨fun Y x=>tJ Y _ (ld.nb 0 x),fun Y xs=>xG Y _ (p7 (ld.nb 0) xs)⟩
def ld.vw(H:List lw)(x:ld):vwL H x.cells=some (x.cells,[]):=L1 H _ (ld.nb 0 x)
attribute [go_sem] ld.vw
def ld.reads:
 (∀x:ld,cellsOf (.agg x.cells)=some x.cells)/\
 (∀x:ld,l3 true 2 x.cells=some (.agg x.cells))/\
 (∀x:ld,l3 false 1 x.cells=some (.bool x.alb))/\
 (∀x:ld,l3 false 1 (x.cells.drop 1)=some (.mj false 2 (mp lz.cells x.A8))):=
 ⟨fun x=>by simp only[cellsOf,ld.nT,kW],
  fun x=>uU (ld.length x),
  fun x=>by rw[ld.lB];rfl,
  fun x=>by rw[ld.lB];rfl⟩
def ld.atX(x:ld)(o:Nat)(xs:List AV):z1 x.cells o xs=z1 [.bool x.alb,.mj false 2 (mp lz.cells x.A8)] o xs:=by rw[ld.lB]
attribute [go_sem] ld.nbs ld.adH ld.reads ld.length ld.nT
attribute [go_sem low] ld.atX
inductive Syntax where
 |mk (kind:Int) (text:lH) (num:Int) (mZ:List lH) (mK:List ld) (mR:List Syntax) (rJ:Int) (to:Int)
def Syntax.kind:Syntax->Int|.mk x _ _ _ _ _ _ _=>x
def Syntax.text:Syntax->lH|.mk _ x _ _ _ _ _ _=>x
def Syntax.num:Syntax->Int|.mk _ _ x _ _ _ _ _=>x
def Syntax.mZ:Syntax->List lH|.mk _ _ _ x _ _ _ _=>x
def Syntax.mK:Syntax->List ld|.mk _ _ _ _ x _ _ _=>x
def Syntax.mR:Syntax->List Syntax|.mk _ _ _ _ _ x _ _=>x
def Syntax.rJ:Syntax->Int|.mk _ _ _ _ _ _ x _=>x
def Syntax.to:Syntax->Int|.mk _ _ _ _ _ _ _ x=>x
mutual
def Syntax.cells:Syntax->List AV
 |.mk kind text num mZ mK mR rJ to=>[.int .i64 kind,.str (sb text),.int .i64 num,.mj false 1 (mp mS mZ),.mj false 2 (mp ld.cells mK),.mj false 8 (Syntax.Ps mR),.int .i64 rJ,.int .i64 to]
def Syntax.Ps:List Syntax->List (List AV)
 |[]=>[]
 |t::ts=>t.cells::Syntax.Ps ts
end
theorem Syntax.GU:∀ts:List Syntax,Syntax.Ps ts=mp Syntax.cells ts
 |[]=>by rw[sZ];rfl
 |t::ts=>by rw[Syntax.Ps,Syntax.GU ts,sZ,sZ];rfl
theorem Syntax.mr(x:Syntax):x.cells=[.int .i64 x.kind,.str (sb x.text),.int .i64 x.num,.mj false 1 (mp mS x.mZ),.mj false 2 (mp ld.cells x.mK),.mj false 8 (mp Syntax.cells x.mR),.int .i64 x.rJ,.int .i64 x.to]:=by
 cases x;simp only[Syntax.cells,Syntax.GU];rfl
theorem Syntax.lB(x:Syntax):x.cells=[.int .i64 x.kind,.str (sb x.text),.int .i64 x.num,.mj false 1 (mp mS x.mZ),.mj false 2 (mp ld.cells x.mK),.mj false 8 (mp Syntax.cells x.mR),.int .i64 x.rJ,.int .i64 x.to]:=by
 cases x;simp only[Syntax.cells,Syntax.GU,fH,fJ,fK];rfl
attribute [irreducible] Syntax.cells
theorem Syntax.length(x:Syntax):x.cells.length=8:=by rw[Syntax.lB];rfl
def Syntax.nT(x:Syntax):x.cells.all AV.nT=true:=by rw[Syntax.lB];rfl
mutual
theorem Syntax.nb(n:Nat):∀x:Syntax,yg n x.cells
 | .mk kind text num mZ mK mR rJ to=>by
   rw[Syntax.mr];exact⟨trivial,trivial,trivial,p7 (GS n) _,p7 (ld.nb n) _,Syntax.Pe n mR,trivial,trivial,trivial⟩
theorem Syntax.Pe(n:Nat):∀ts:List Syntax,Pe n (mp Syntax.cells ts)
 |[]=>by rw[sZ];trivial
 |t::ts=>by have:=Syntax.Pe n ts;rw[sZ]at this ⊢;exact⟨Syntax.nb n t,this⟩
end
mutual
def Syntax.of0:List AV->Option Syntax
 |[c0,c1,c2,c3,c4,.mj _ z5 r5,c6,c7]=>(dI .i64 c0).bind fun x0=>(dS c1).bind fun x1=>(dI .i64 c2).bind fun x2=>(dL mJ [] c3).bind fun x3=>(dL ld.row [] c4).bind fun x4=>(bif DN z5 8 r5 then Syntax.ofR r5 else none).bind fun x5=>(dI .i64 c6).bind fun x6=>(dI .i64 c7).bind fun x7=>some (.mk x0 x1 x2 x3 x4 x5 x6 x7)
 |_=>none
def Syntax.ofR:List (List AV)->Option (List Syntax)
 |[]=>some []
 |r::rs=>(Syntax.of0 r).bind fun x=>(Syntax.ofR rs).bind fun xs=>some (x::xs)
end
def Syntax.ap4:∀rs,Syntax.ofR rs=tU Syntax.of0 rs
 |[]=>by simp only[Syntax.ofR,tU]
 |r::rs=>by simp only[Syntax.ofR,tU,Syntax.ap4 rs]
mutual
def Syntax.Ck:∀x:Syntax,Syntax.of0 x.cells=some x
 | .mk kind text num mZ mK mR rJ to=>by
   rw[Syntax.lB];show Syntax.of0 [.int .i64 kind,.str (sb text),.int .i64 num,.mj false 1 (mp mS mZ),.mj false 2 (mp ld.cells mK),.mj false 8 (mp Syntax.cells mR),.int .i64 rJ,.int .i64 to]=_;simp only[Syntax.of0,Bt,w8,GP,qF,DN,beq_self_eq_true,fF,kP,dL,Syntax.Oc mR,ld.nO,ld.row,Dz,adv]
def Syntax.Oc:∀xs:List Syntax,Syntax.ofR (mp Syntax.cells xs)=some xs
 |[]=>by rw[sZ];simp only[fM,Syntax.ofR]
 |x::xs=>by have h:=Syntax.Oc xs;rw[sZ]at h ⊢;simp only[fL,Syntax.ofR,Syntax.Ck x,h,qF]
end
mutual
def Syntax.Xo:∀(x:Syntax)(r:List AV),Syntax.of0 r=some x->yQ r x.cells
 | .mk kind text num mZ mK mR rJ to,r,h=>by
   unfold Syntax.of0 at h;split at h
   ·simp only[fC,fD,Syntax.mk.injEq]at h;obtain⟨x0,h0,x1,h1,x2,h2,x3,h3,x4,h4,x5,h5,x6,h6,x7,h7,e0,e1,e2,e3,e4,e5,e6,e7⟩:=h;rw[e0]at h0;rw[e1]at h1;rw[e2]at h2;rw[e3]at h3;rw[e4]at h4;rw[e5]at h5;rw[e6]at h6;rw[e7]at h7;rw[Syntax.mr];exact(yQ.cons ((xT (H:=[]) (n:=0) h0).qk) (yQ.cons ((S6 (H:=[]) (n:=0) h1).qk) (yQ.cons ((xT (H:=[]) (n:=0) h2).qk) (yQ.cons ((Cj (H:=[]) (n:=0) h3).qk) (yQ.cons ((Cj (H:=[]) (n:=0) h4).qk) (yQ.cons (azw (Syntax.agK mR _) h5) (yQ.cons ((xT (H:=[]) (n:=0) h6).qk) (yQ.cons ((xT (H:=[]) (n:=0) h7).qk) yQ.nil))))))))
   ·cases h
def Syntax.agK:∀(xs:List Syntax)(rs:List (List AV)),Syntax.ofR rs=some xs->Va rs (mp Syntax.cells xs)
 |[],rs,h=>by
  cases rs with
  |nil=>rw[sZ];exact Va.nil
  |cons r rs=>
   simp only[Syntax.ofR,fC,fD]at h;obtain⟨_,_,_,_,h⟩:=h;cases h
 |x::xs,rs,h=>by
  cases rs with
  |nil=>simp only[Syntax.ofR,fD]at h;cases h
  |cons r rs=>
   simp only[Syntax.ofR,fC,fD,List.cons.injEq]at h;obtain⟨_,hx,_,hys,rfl,rfl⟩:=h;have h2:=Syntax.agK _ rs hys;rw[sZ]at h2 ⊢;exact Va.cons (Syntax.Xo _ r hx).aBx h2
end
def Syntax.row:Row Syntax:=⟨Syntax.cells,Syntax.of0,8,fun r x h=>Syntax.Xo x r h,Syntax.nb⟩
def Syntax.nO(xs:List Syntax):tU Syntax.of0 (mp Syntax.cells xs)=some xs:=Ci Syntax.Ck xs
def Syntax.of(H:List lw):List AV->Option Syntax
 |[c0,c1,c2,c3,c4,c5,c6,c7]=>(dI .i64 c0).bind fun x0=>(dS c1).bind fun x1=>(dI .i64 c2).bind fun x2=>(dL mJ H c3).bind fun x3=>(dL ld.row H c4).bind fun x4=>(dL Syntax.row H c5).bind fun x5=>(dI .i64 c6).bind fun x6=>(dI .i64 c7).bind fun x7=>some (.mk x0 x1 x2 x3 x4 x5 x6 x7)
 |_=>none
def Syntax.qa {c0 c1 c2 c3 c4 c5 c6:AV}:Syntax.of H [c0,c1,c2,c3,c4,c5,c6,c7]=(dI .i64 c0).bind fun x0=>(dS c1).bind fun x1=>(dI .i64 c2).bind fun x2=>(dL mJ H c3).bind fun x3=>(dL ld.row H c4).bind fun x4=>(dL Syntax.row H c5).bind fun x5=>(dI .i64 c6).bind fun x6=>(dI .i64 c7).bind fun x7=>some (.mk x0 x1 x2 x3 x4 x5 x6 x7):=rfl
def Syntax.mF(H:List lw)(x:Syntax):Syntax.of H [.int .i64 x.kind,.str (sb x.text),.int .i64 x.num,.mj false 1 (mp mS x.mZ),.mj false 2 (mp ld.cells x.mK),.mj false 8 (mp Syntax.cells x.mR),.int .i64 x.rJ,.int .i64 x.to]=some x:=by
 simp only[Syntax.qa,Bt,w8,GP,qF,DN,beq_self_eq_true,fF,kP,dL,ld.nO,ld.row,Syntax.nO,Syntax.row,Dz,adv]
 try (cases x;rfl)
theorem Syntax.ow(H:List lw)(x:Syntax):Syntax.of H x.cells=some x:=by rw[Syntax.lB];exact Syntax.mF H x
def Syntax.qX{x:Syntax}(h:Syntax.of H cs=some x):nI H n cs x.cells:=by
 unfold Syntax.of at h;split at h
 ·simp only[fC,fD]at h;obtain⟨x0,h0,x1,h1,x2,h2,x3,h3,x4,h4,x5,h5,x6,h6,x7,h7,rfl⟩:=h;rw[Syntax.mr];exact(nI.cons (xT h0) (nI.cons (S6 h1) (nI.cons (xT h2) (nI.cons (Cj h3) (nI.cons (Cj h4) (nI.cons (Cj h5) (nI.cons (xT h6) (nI.cons (xT h7) nI.nil))))))))
 ·cases h
def Syntax.lU:VZ Syntax:=⟨Syntax.cells,Syntax.of,fun _ _ _ _ h=>Syntax.qX h,Syntax.nb⟩
def Syntax.xp:Syntax.row.enc=Syntax.cells/\Syntax.row.oP=Syntax.of0/\Syntax.row.sz=8/\Syntax.lU.enc=Syntax.cells/\Syntax.lU.oP=Syntax.of:=⟨rfl,rfl,rfl,rfl,rfl⟩
def Syntax.eta(x:Syntax):Syntax.mk x.kind x.text x.num x.mZ x.mK x.mR x.rJ x.to=x:=by cases x;rfl
attribute [go_sem] Syntax.qa Syntax.ow Syntax.nO Syntax.xp Syntax.eta Syntax.of0 Syntax.Ck Syntax.ap4
def Syntax.WN:(∀(y0:Int)(y1:lH)(y2:Int)(y3:List lH)(y4:List ld)(y5:List Syntax)(y6:Int)(y7:Int),(Syntax.mk y0 y1 y2 y3 y4 y5 y6 y7).kind=y0)/\(∀(y0:Int)(y1:lH)(y2:Int)(y3:List lH)(y4:List ld)(y5:List Syntax)(y6:Int)(y7:Int),(Syntax.mk y0 y1 y2 y3 y4 y5 y6 y7).text=y1)/\(∀(y0:Int)(y1:lH)(y2:Int)(y3:List lH)(y4:List ld)(y5:List Syntax)(y6:Int)(y7:Int),(Syntax.mk y0 y1 y2 y3 y4 y5 y6 y7).num=y2)/\(∀(y0:Int)(y1:lH)(y2:Int)(y3:List lH)(y4:List ld)(y5:List Syntax)(y6:Int)(y7:Int),(Syntax.mk y0 y1 y2 y3 y4 y5 y6 y7).mZ=y3)/\(∀(y0:Int)(y1:lH)(y2:Int)(y3:List lH)(y4:List ld)(y5:List Syntax)(y6:Int)(y7:Int),(Syntax.mk y0 y1 y2 y3 y4 y5 y6 y7).mK=y4)/\(∀(y0:Int)(y1:lH)(y2:Int)(y3:List lH)(y4:List ld)(y5:List Syntax)(y6:Int)(y7:Int),(Syntax.mk y0 y1 y2 y3 y4 y5 y6 y7).mR=y5)/\(∀(y0:Int)(y1:lH)(y2:Int)(y3:List lH)(y4:List ld)(y5:List Syntax)(y6:Int)(y7:Int),(Syntax.mk y0 y1 y2 y3 y4 y5 y6 y7).rJ=y6)/\(∀(y0:Int)(y1:lH)(y2:Int)(y3:List lH)(y4:List ld)(y5:List Syntax)(y6:Int)(y7:Int),(Syntax.mk y0 y1 y2 y3 y4 y5 y6 y7).to=y7):=⟨fun _ _ _ _ _ _ _ _=>rfl,fun _ _ _ _ _ _ _ _=>rfl,fun _ _ _ _ _ _ _ _=>rfl,fun _ _ _ _ _ _ _ _=>rfl,fun _ _ _ _ _ _ _ _=>rfl,fun _ _ _ _ _ _ _ _=>rfl,fun _ _ _ _ _ _ _ _=>rfl,fun _ _ _ _ _ _ _ _=>rfl⟩
attribute [go_sem] Syntax.WN
def Syntax.nbs:(∀(n:Nat)(x:Syntax),Go.Abs.yg n x.cells=True)/\∀(n:Nat)(xs:List Syntax),Go.Abs.Pe n (mp Syntax.cells xs)=True:=⟨fun n x=>eq_true (Syntax.nb n x),fun n xs=>eq_true (p7 (Syntax.nb n) xs)⟩
def Syntax.adH:(∀(Y:Nat->Nat)(x:Syntax),vC Y x.cells=x.cells)/\∀(Y:Nat->Nat)(xs:List Syntax),JX Y (mp Syntax.cells xs)=mp Syntax.cells xs:=⟨fun Y x=>tJ Y _ (Syntax.nb 0 x),fun Y xs=>xG Y _ (p7 (Syntax.nb 0) xs)⟩
def Syntax.vw(H:List lw)(x:Syntax):vwL H x.cells=some (x.cells,[]):=L1 H _ (Syntax.nb 0 x)
attribute [go_sem] Syntax.vw
theorem Syntax.frz(low:Nat)(H:List lw)(x:Syntax):api low H x.cells=x.cells:=R0 low H _ (Syntax.nb 0 x)
def Syntax.rpv(l:Nat)(ds:List AV)(x:Syntax):x.cells.map (rpV l ds)=x.cells:=Xj _ (Syntax.nb 0 x)
attribute [go_sem] Syntax.rpv
def Syntax.tk:(∀x:Syntax,fN 8 x.cells=x.cells)/\∀x:Syntax,fO 8 x.cells=[]:=⟨fun x=>by rw[Syntax.lB];rfl,fun x=>by rw[Syntax.lB];rfl⟩
attribute [go_sem] Syntax.tk
def Syntax.reads:
 (∀x:Syntax,cellsOf (.agg x.cells)=some x.cells)/\
 (∀x:Syntax,l3 true 8 x.cells=some (.agg x.cells))/\
 (∀x:Syntax,l3 false 1 x.cells=some (.int .i64 x.kind))/\
 (∀x:Syntax,l3 false 1 (x.cells.drop 1)=some (.str (sb x.text)))/\
 (∀x:Syntax,l3 false 1 (x.cells.drop 2)=some (.int .i64 x.num))/\
 (∀x:Syntax,l3 false 1 (x.cells.drop 3)=some (.mj false 1 (mp mS x.mZ)))/\
 (∀x:Syntax,l3 false 1 (x.cells.drop 4)=some (.mj false 2 (mp ld.cells x.mK)))/\
 (∀x:Syntax,l3 false 1 (x.cells.drop 5)=some (.mj false 8 (mp Syntax.cells x.mR)))/\
 (∀x:Syntax,l3 false 1 (x.cells.drop 6)=some (.int .i64 x.rJ))/\
 (∀x:Syntax,l3 false 1 (x.cells.drop 7)=some (.int .i64 x.to)):=
 ⟨fun x=>by simp only[cellsOf,Syntax.nT,kW],
  fun x=>uU (Syntax.length x),
  fun x=>by rw[Syntax.lB];rfl,
  fun x=>by rw[Syntax.lB];rfl,
  fun x=>by rw[Syntax.lB];rfl,
  fun x=>by rw[Syntax.lB];rfl,
  fun x=>by rw[Syntax.lB];rfl,
  fun x=>by rw[Syntax.lB];rfl,
  fun x=>by rw[Syntax.lB];rfl,
  fun x=>by rw[Syntax.lB];rfl⟩
def Syntax.atX(x:Syntax)(o:Nat)(xs:List AV):z1 x.cells o xs=z1 [.int .i64 x.kind,.str (sb x.text),.int .i64 x.num,.mj false 1 (mp mS x.mZ),.mj false 2 (mp ld.cells x.mK),.mj false 8 (mp Syntax.cells x.mR),.int .i64 x.rJ,.int .i64 x.to] o xs:=by rw[Syntax.lB]
def Syntax.cns(x:Syntax)(c:AV):c::x.cells=[c,.int .i64 x.kind,.str (sb x.text),.int .i64 x.num,.mj false 1 (mp mS x.mZ),.mj false 2 (mp ld.cells x.mK),.mj false 8 (mp Syntax.cells x.mR),.int .i64 x.rJ,.int .i64 x.to]:=by rw[Syntax.lB]
attribute [go_sem] Syntax.cns Syntax.nbs Syntax.adH Syntax.frz Syntax.reads Syntax.length Syntax.nT
attribute [go_sem low] Syntax.atX
structure l5 where
 index:Int
 plus:Int
def l5.cells(x:l5):List AV:=[.int .i64 x.index,.int .i64 x.plus]
theorem l5.mr(x:l5):x.cells=[.int .i64 x.index,.int .i64 x.plus]:=rfl
theorem l5.lB(x:l5):x.cells=[.int .i64 x.index,.int .i64 x.plus]:=rfl
attribute [irreducible] l5.cells
theorem l5.length(x:l5):x.cells.length=2:=by rw[l5.lB];rfl
def l5.nT(x:l5):x.cells.all AV.nT=true:=by rw[l5.lB];rfl
theorem l5.nb(n:Nat)(x:l5):yg n x.cells:=by
 rw[l5.mr];exact⟨trivial,trivial,trivial⟩
def l5.of(H:List lw):List AV->Option l5
 |[c0,c1]=>(dI .i64 c0).bind fun x0=>(dI .i64 c1).bind fun x1=>some (.mk x0 x1)
 |_=>none
def l5.qa{c0 c1:AV}:l5.of H [c0,c1]=(dI .i64 c0).bind fun x0=>(dI .i64 c1).bind fun x1=>some (.mk x0 x1):=rfl
def l5.mF(H:List lw)(x:l5):l5.of H [.int .i64 x.index,.int .i64 x.plus]=some x:=by
 simp only[l5.qa,Bt,w8,GP,qF,DN,beq_self_eq_true,fF,kP,dL]
 try (cases x;rfl)
theorem l5.ow(H:List lw)(x:l5):l5.of H x.cells=some x:=by rw[l5.lB];exact l5.mF H x
def l5.qX{x:l5}(h:l5.of H cs=some x):nI H n cs x.cells:=by
 unfold l5.of at h;split at h
 ·simp only[fC,fD]at h;obtain⟨x0,h0,x1,h1,rfl⟩:=h;rw[l5.mr];exact(nI.cons (xT h0) (nI.cons (xT h1) nI.nil))
 ·cases h
def l5.lU:VZ l5:=⟨l5.cells,l5.of,fun _ _ _ _ h=>l5.qX h,l5.nb⟩
def l5.row:Row l5:=⟨l5.cells,l5.of [],2,fun _ _ h=>(l5.qX (n:=0) h).qk,l5.nb⟩
def l5.nO(xs:List l5):tU (l5.of []) (mp l5.cells xs)=some xs:=Ci (l5.ow []) xs
def l5.xp:l5.row.enc=l5.cells/\l5.row.oP=l5.of []/\l5.row.sz=2/\l5.lU.enc=l5.cells/\l5.lU.oP=l5.of:=⟨rfl,rfl,rfl,rfl,rfl⟩
attribute [go_sem] l5.qa l5.ow l5.nO l5.xp
def l5.WN:(∀(y0:Int)(y1:Int),(l5.mk y0 y1).index=y0)/\(∀(y0:Int)(y1:Int),(l5.mk y0 y1).plus=y1):=⟨fun _ _=>rfl,fun _ _=>rfl⟩
attribute [go_sem] l5.WN
def l5.reads:
 (∀x:l5,cellsOf (.agg x.cells)=some x.cells)/\
 (∀x:l5,l3 true 2 x.cells=some (.agg x.cells))/\
 (∀x:l5,l3 false 1 x.cells=some (.int .i64 x.index))/\
 (∀x:l5,l3 false 1 (x.cells.drop 1)=some (.int .i64 x.plus)):=
 ⟨fun x=>by simp only[cellsOf,l5.nT,kW],
  fun x=>uU (l5.length x),
  fun x=>by rw[l5.lB];rfl,
  fun x=>by rw[l5.lB];rfl⟩
attribute [go_sem] l5.reads l5.length l5.nT
structure nD where
 const:Int
 vars:List l5
def nD.cells(x:nD):List AV:=[.int .i64 x.const,.mj false 2 (mp l5.cells x.vars)]
theorem nD.mr(x:nD):x.cells=[.int .i64 x.const,.mj false 2 (mp l5.cells x.vars)]:=rfl
theorem nD.lB(x:nD):x.cells=[.int .i64 x.const,.mj false 2 (mp l5.cells x.vars)]:=rfl
attribute [irreducible] nD.cells
theorem nD.length(x:nD):x.cells.length=2:=by rw[nD.lB];rfl
def nD.nT(x:nD):x.cells.all AV.nT=true:=by rw[nD.lB];rfl
theorem nD.nb(n:Nat)(x:nD):yg n x.cells:=by
 rw[nD.mr];exact⟨trivial,p7 (l5.nb n) _,trivial⟩
def nD.of(H:List lw):List AV->Option nD
 |[c0,c1]=>(dI .i64 c0).bind fun x0=>(dL l5.row H c1).bind fun x1=>some (.mk x0 x1)
 |_=>none
def nD.qa{c0 c1:AV}:nD.of H [c0,c1]=(dI .i64 c0).bind fun x0=>(dL l5.row H c1).bind fun x1=>some (.mk x0 x1):=rfl
def nD.mF(H:List lw)(x:nD):nD.of H [.int .i64 x.const,.mj false 2 (mp l5.cells x.vars)]=some x:=by
 simp only[nD.qa,Bt,w8,GP,qF,DN,beq_self_eq_true,fF,kP,dL,l5.nO,l5.row]
 try (cases x;rfl)
theorem nD.ow(H:List lw)(x:nD):nD.of H x.cells=some x:=by rw[nD.lB];exact nD.mF H x
def nD.qX{x:nD}(h:nD.of H cs=some x):nI H n cs x.cells:=by
 unfold nD.of at h;split at h
 ·simp only[fC,fD]at h;obtain⟨x0,h0,x1,h1,rfl⟩:=h;rw[nD.mr];exact(nI.cons (xT h0) (nI.cons (Cj h1) nI.nil))
 ·cases h
def nD.lU:VZ nD:=⟨nD.cells,nD.of,fun _ _ _ _ h=>nD.qX h,nD.nb⟩
def nD.row:Row nD:=⟨nD.cells,nD.of [],2,fun _ _ h=>(nD.qX (n:=0) h).qk,nD.nb⟩
def nD.nO(xs:List nD):tU (nD.of []) (mp nD.cells xs)=some xs:=Ci (nD.ow []) xs
def nD.xp:nD.row.enc=nD.cells/\nD.row.oP=nD.of []/\nD.row.sz=2/\nD.lU.enc=nD.cells/\nD.lU.oP=nD.of:=⟨rfl,rfl,rfl,rfl,rfl⟩
attribute [go_sem] nD.qa nD.ow nD.nO nD.xp
def nD.WN:(∀(y0:Int)(y1:List l5),(nD.mk y0 y1).const=y0)/\(∀(y0:Int)(y1:List l5),(nD.mk y0 y1).vars=y1):=⟨fun _ _=>rfl,fun _ _=>rfl⟩
attribute [go_sem] nD.WN
def nD.reads:
 (∀x:nD,cellsOf (.agg x.cells)=some x.cells)/\
 (∀x:nD,l3 true 2 x.cells=some (.agg x.cells))/\
 (∀x:nD,l3 false 1 x.cells=some (.int .i64 x.const))/\
 (∀x:nD,l3 false 1 (x.cells.drop 1)=some (.mj false 2 (mp l5.cells x.vars))):=
 ⟨fun x=>by simp only[cellsOf,nD.nT,kW],
  fun x=>uU (nD.length x),
  fun x=>by rw[nD.lB];rfl,
  fun x=>by rw[nD.lB];rfl⟩
attribute [go_sem] nD.reads nD.length nD.nT
inductive lO where
 |mk (kind:Int) (index:Int) (name:lH) (mK:List nD) (mR:List lO)
def lO.kind:lO->Int|.mk x _ _ _ _=>x
def lO.index:lO->Int|.mk _ x _ _ _=>x
def lO.name:lO->lH|.mk _ _ x _ _=>x
def lO.mK:lO->List nD|.mk _ _ _ x _=>x
def lO.mR:lO->List lO|.mk _ _ _ _ x=>x
mutual
def lO.cells:lO->List AV
 |.mk kind index name mK mR=>[.int .i64 kind,.int .i64 index,.str (sb name),.mj false 2 (mp nD.cells mK),.mj false 5 (lO.Ps mR)]
def lO.Ps:List lO->List (List AV)
 |[]=>[]
 |t::ts=>t.cells::lO.Ps ts
end
theorem lO.GU:∀ts:List lO,lO.Ps ts=mp lO.cells ts
 |[]=>by rw[sZ];rfl
 |t::ts=>by rw[lO.Ps,lO.GU ts,sZ,sZ];rfl
theorem lO.mr(x:lO):x.cells=[.int .i64 x.kind,.int .i64 x.index,.str (sb x.name),.mj false 2 (mp nD.cells x.mK),.mj false 5 (mp lO.cells x.mR)]:=by
 cases x;simp only[lO.cells,lO.GU];rfl
theorem lO.lB(x:lO):x.cells=[.int .i64 x.kind,.int .i64 x.index,.str (sb x.name),.mj false 2 (mp nD.cells x.mK),.mj false 5 (mp lO.cells x.mR)]:=by
 cases x;simp only[lO.cells,lO.GU,fH,fJ,fK];rfl
attribute [irreducible] lO.cells
theorem lO.length(x:lO):x.cells.length=5:=by rw[lO.lB];rfl
def lO.nT(x:lO):x.cells.all AV.nT=true:=by rw[lO.lB];rfl
mutual
theorem lO.nb(n:Nat):∀x:lO,yg n x.cells
 | .mk kind index name mK mR=>by
   rw[lO.mr];exact⟨trivial,trivial,trivial,p7 (nD.nb n) _,lO.Pe n mR,trivial⟩
theorem lO.Pe(n:Nat):∀ts:List lO,Pe n (mp lO.cells ts)
 |[]=>by rw[sZ];trivial
 |t::ts=>by have:=lO.Pe n ts;rw[sZ]at this ⊢;exact⟨lO.nb n t,this⟩
end
mutual
def lO.of0:List AV->Option lO
 |[c0,c1,c2,c3,.mj _ z4 r4]=>(dI .i64 c0).bind fun x0=>(dI .i64 c1).bind fun x1=>(dS c2).bind fun x2=>(dL nD.row [] c3).bind fun x3=>(bif DN z4 5 r4 then lO.ofR r4 else none).bind fun x4=>some (.mk x0 x1 x2 x3 x4)
 |_=>none
def lO.ofR:List (List AV)->Option (List lO)
 |[]=>some []
 |r::rs=>(lO.of0 r).bind fun x=>(lO.ofR rs).bind fun xs=>some (x::xs)
end
def lO.ap4:∀rs,lO.ofR rs=tU lO.of0 rs
 |[]=>by simp only[lO.ofR,tU]
 |r::rs=>by simp only[lO.ofR,tU,lO.ap4 rs]
mutual
def lO.Ck:∀x:lO,lO.of0 x.cells=some x
 | .mk kind index name mK mR=>by
   rw[lO.lB];show lO.of0 [.int .i64 kind,.int .i64 index,.str (sb name),.mj false 2 (mp nD.cells mK),.mj false 5 (mp lO.cells mR)]=_;simp only[lO.of0,Bt,w8,GP,qF,DN,beq_self_eq_true,fF,kP,dL,lO.Oc mR,nD.nO,nD.row]
def lO.Oc:∀xs:List lO,lO.ofR (mp lO.cells xs)=some xs
 |[]=>by rw[sZ];simp only[fM,lO.ofR]
 |x::xs=>by have h:=lO.Oc xs;rw[sZ]at h ⊢;simp only[fL,lO.ofR,lO.Ck x,h,qF]
end
mutual
def lO.Xo:∀(x:lO)(r:List AV),lO.of0 r=some x->yQ r x.cells
 | .mk kind index name mK mR,r,h=>by
   unfold lO.of0 at h;split at h
   ·simp only[fC,fD,lO.mk.injEq]at h;obtain⟨x0,h0,x1,h1,x2,h2,x3,h3,x4,h4,e0,e1,e2,e3,e4⟩:=h;rw[e0]at h0;rw[e1]at h1;rw[e2]at h2;rw[e3]at h3;rw[e4]at h4;rw[lO.mr];exact(yQ.cons ((xT (H:=[]) (n:=0) h0).qk) (yQ.cons ((xT (H:=[]) (n:=0) h1).qk) (yQ.cons ((S6 (H:=[]) (n:=0) h2).qk) (yQ.cons ((Cj (H:=[]) (n:=0) h3).qk) (yQ.cons (azw (lO.agK mR _) h4) yQ.nil)))))
   ·cases h
def lO.agK:∀(xs:List lO)(rs:List (List AV)),lO.ofR rs=some xs->Va rs (mp lO.cells xs)
 |[],rs,h=>by
  cases rs with
  |nil=>rw[sZ];exact Va.nil
  |cons r rs=>
   simp only[lO.ofR,fC,fD]at h;obtain⟨_,_,_,_,h⟩:=h;cases h
 |x::xs,rs,h=>by
  cases rs with
  |nil=>simp only[lO.ofR,fD]at h;cases h
  |cons r rs=>
   simp only[lO.ofR,fC,fD,List.cons.injEq]at h;obtain⟨_,hx,_,hys,rfl,rfl⟩:=h;have h2:=lO.agK _ rs hys;rw[sZ]at h2 ⊢;exact Va.cons (lO.Xo _ r hx).aBx h2
end
def lO.row:Row lO:=⟨lO.cells,lO.of0,5,fun r x h=>lO.Xo x r h,lO.nb⟩
def lO.nO(xs:List lO):tU lO.of0 (mp lO.cells xs)=some xs:=Ci lO.Ck xs
def lO.of(H:List lw):List AV->Option lO
 |[c0,c1,c2,c3,c4]=>(dI .i64 c0).bind fun x0=>(dI .i64 c1).bind fun x1=>(dS c2).bind fun x2=>(dL nD.row H c3).bind fun x3=>(dL lO.row H c4).bind fun x4=>some (.mk x0 x1 x2 x3 x4)
 |_=>none
def lO.qa{c0 c1 c2 c3 c4:AV}:lO.of H [c0,c1,c2,c3,c4]=(dI .i64 c0).bind fun x0=>(dI .i64 c1).bind fun x1=>(dS c2).bind fun x2=>(dL nD.row H c3).bind fun x3=>(dL lO.row H c4).bind fun x4=>some (.mk x0 x1 x2 x3 x4):=rfl
def lO.mF(H:List lw)(x:lO):lO.of H [.int .i64 x.kind,.int .i64 x.index,.str (sb x.name),.mj false 2 (mp nD.cells x.mK),.mj false 5 (mp lO.cells x.mR)]=some x:=by
 simp only[lO.qa,Bt,w8,GP,qF,DN,beq_self_eq_true,fF,kP,dL,nD.nO,nD.row,lO.nO,lO.row]
 try (cases x;rfl)
theorem lO.ow(H:List lw)(x:lO):lO.of H x.cells=some x:=by rw[lO.lB];exact lO.mF H x
def lO.qX{x:lO}(h:lO.of H cs=some x):nI H n cs x.cells:=by
 unfold lO.of at h;split at h
 ·simp only[fC,fD]at h;obtain⟨x0,h0,x1,h1,x2,h2,x3,h3,x4,h4,rfl⟩:=h;rw[lO.mr];exact(nI.cons (xT h0) (nI.cons (xT h1) (nI.cons (S6 h2) (nI.cons (Cj h3) (nI.cons (Cj h4) nI.nil)))))
 ·cases h
def lO.lU:VZ lO:=⟨lO.cells,lO.of,fun _ _ _ _ h=>lO.qX h,lO.nb⟩
def lO.xp:lO.row.enc=lO.cells/\lO.row.oP=lO.of0/\lO.row.sz=5/\lO.lU.enc=lO.cells/\lO.lU.oP=lO.of:=⟨rfl,rfl,rfl,rfl,rfl⟩
attribute [go_sem] lO.qa lO.ow lO.nO lO.xp lO.of0 lO.Ck lO.ap4
def lO.WN:(∀(y0:Int)(y1:Int)(y2:lH)(y3:List nD)(y4:List lO),(lO.mk y0 y1 y2 y3 y4).kind=y0)/\(∀(y0:Int)(y1:Int)(y2:lH)(y3:List nD)(y4:List lO),(lO.mk y0 y1 y2 y3 y4).index=y1)/\(∀(y0:Int)(y1:Int)(y2:lH)(y3:List nD)(y4:List lO),(lO.mk y0 y1 y2 y3 y4).name=y2)/\(∀(y0:Int)(y1:Int)(y2:lH)(y3:List nD)(y4:List lO),(lO.mk y0 y1 y2 y3 y4).mK=y3)/\(∀(y0:Int)(y1:Int)(y2:lH)(y3:List nD)(y4:List lO),(lO.mk y0 y1 y2 y3 y4).mR=y4):=⟨fun _ _ _ _ _=>rfl,fun _ _ _ _ _=>rfl,fun _ _ _ _ _=>rfl,fun _ _ _ _ _=>rfl,fun _ _ _ _ _=>rfl⟩
attribute [go_sem] lO.WN
def lO.nbs:(∀(n:Nat)(x:lO),Go.Abs.yg n x.cells=True)/\∀(n:Nat)(xs:List lO),Go.Abs.Pe n (mp lO.cells xs)=True:=⟨fun n x=>eq_true (lO.nb n x),fun n xs=>eq_true (p7 (lO.nb n) xs)⟩
def lO.vw(H:List lw)(x:lO):vwL H x.cells=some (x.cells,[]):=L1 H _ (lO.nb 0 x)
attribute [go_sem] lO.vw
theorem lO.frz(low:Nat)(H:List lw)(x:lO):api low H x.cells=x.cells:=R0 low H _ (lO.nb 0 x)
def lO.rpv(l:Nat)(ds:List AV)(x:lO):x.cells.map (rpV l ds)=x.cells:=Xj _ (lO.nb 0 x)
attribute [go_sem] lO.rpv
def lO.reads:
 (∀x:lO,cellsOf (.agg x.cells)=some x.cells)/\
 (∀x:lO,l3 true 5 x.cells=some (.agg x.cells))/\
 (∀x:lO,l3 false 1 x.cells=some (.int .i64 x.kind))/\
 (∀x:lO,l3 false 1 (x.cells.drop 1)=some (.int .i64 x.index))/\
 (∀x:lO,l3 false 1 (x.cells.drop 2)=some (.str (sb x.name)))/\
 (∀x:lO,l3 false 1 (x.cells.drop 3)=some (.mj false 2 (mp nD.cells x.mK)))/\
 (∀x:lO,l3 false 1 (x.cells.drop 4)=some (.mj false 5 (mp lO.cells x.mR))):=
 ⟨fun x=>by simp only[cellsOf,lO.nT,kW],
  fun x=>uU (lO.length x),
  fun x=>by rw[lO.lB];rfl,
  fun x=>by rw[lO.lB];rfl,
  fun x=>by rw[lO.lB];rfl,
  fun x=>by rw[lO.lB];rfl,
  fun x=>by rw[lO.lB];rfl⟩
attribute [go_sem] lO.nbs lO.frz lO.reads lO.length lO.nT
structure mT where
 params:Int
 type:lO
 ai3:List lO
def mT.cells(x:mT):List AV:=[.int .i64 x.params]++x.type.cells++[.mj false 5 (mp lO.cells x.ai3)]
theorem mT.mr(x:mT):x.cells=[.int .i64 x.params]++x.type.cells++[.mj false 5 (mp lO.cells x.ai3)]:=rfl
theorem mT.lB(x:mT):x.cells=[.int .i64 x.params,.int .i64 x.type.kind,.int .i64 x.type.index,.str (sb x.type.name),.mj false 2 (mp nD.cells x.type.mK),.mj false 5 (mp lO.cells x.type.mR),.mj false 5 (mp lO.cells x.ai3)]:=by
 simp only[mT.cells,lO.lB,fH,fJ,fK]
attribute [irreducible] mT.cells
theorem mT.nb(n:Nat)(x:mT):yg n x.cells:=by
 rw[mT.mr];exact(ub (ub ⟨trivial,trivial⟩ (lO.nb n x.type)) ⟨p7 (lO.nb n) _,trivial⟩)
def mT.of(H:List lw):List AV->Option mT
 |[c0,c1,c2,c3,c4,c5,c6]=>(dI .i64 c0).bind fun x0=>(lO.of H [c1,c2,c3,c4,c5]).bind fun x1=>(dL lO.row H c6).bind fun x2=>some (.mk x0 x1 x2)
 |_=>none
def mT.qa{c0 c1 c2 c3 c4 c5 c6:AV}:mT.of H [c0,c1,c2,c3,c4,c5,c6]=(dI .i64 c0).bind fun x0=>(lO.of H [c1,c2,c3,c4,c5]).bind fun x1=>(dL lO.row H c6).bind fun x2=>some (.mk x0 x1 x2):=rfl
def mT.mF(H:List lw)(x:mT):mT.of H [.int .i64 x.params,.int .i64 x.type.kind,.int .i64 x.type.index,.str (sb x.type.name),.mj false 2 (mp nD.cells x.type.mK),.mj false 5 (mp lO.cells x.type.mR),.mj false 5 (mp lO.cells x.ai3)]=some x:=by
 simp only[mT.qa,Bt,w8,GP,qF,DN,beq_self_eq_true,fF,kP,dL,lO.nO,lO.row,lO.mF]
 try (cases x;rfl)
def mT.qX{x:mT}(h:mT.of H cs=some x):nI H n cs x.cells:=by
 unfold mT.of at h;split at h
 ·simp only[fC,fD]at h;obtain⟨x0,h0,x1,h1,x2,h2,rfl⟩:=h;rw[mT.mr];exact(nI.append (nI.append (nI.cons (xT h0) nI.nil) (lO.qX h1)) (nI.cons (Cj h2) nI.nil))
 ·cases h
def mT.lU:VZ mT:=⟨mT.cells,mT.of,fun _ _ _ _ h=>mT.qX h,mT.nb⟩
def mT.row:Row mT:=⟨mT.cells,mT.of [],7,fun _ _ h=>(mT.qX (n:=0) h).qk,mT.nb⟩
def mT.xp:mT.row.enc=mT.cells/\mT.row.oP=mT.of []/\mT.row.sz=7/\mT.lU.enc=mT.cells/\mT.lU.oP=mT.of:=⟨rfl,rfl,rfl,rfl,rfl⟩
attribute [go_sem] mT.qa mT.xp
def mT.WN:(∀(y0:Int)(y1:lO)(y2:List lO),(mT.mk y0 y1 y2).params=y0)/\(∀(y0:Int)(y1:lO)(y2:List lO),(mT.mk y0 y1 y2).type=y1)/\(∀(y0:Int)(y1:lO)(y2:List lO),(mT.mk y0 y1 y2).ai3=y2):=⟨fun _ _ _=>rfl,fun _ _ _=>rfl,fun _ _ _=>rfl⟩
attribute [go_sem] mT.WN
structure qY where
 name:lH
 type:lO
def qY.cells(x:qY):List AV:=[.str (sb x.name)]++x.type.cells
theorem qY.mr(x:qY):x.cells=[.str (sb x.name)]++x.type.cells:=rfl
theorem qY.lB(x:qY):x.cells=[.str (sb x.name),.int .i64 x.type.kind,.int .i64 x.type.index,.str (sb x.type.name),.mj false 2 (mp nD.cells x.type.mK),.mj false 5 (mp lO.cells x.type.mR)]:=by
 simp only[qY.cells,lO.lB,fH,fJ,fK]
attribute [irreducible] qY.cells
theorem qY.length(x:qY):x.cells.length=6:=by rw[qY.lB];rfl
def qY.nT(x:qY):x.cells.all AV.nT=true:=by rw[qY.lB];rfl
theorem qY.nb(n:Nat)(x:qY):yg n x.cells:=by
 rw[qY.mr];exact(ub ⟨trivial,trivial⟩ (lO.nb n x.type))
def qY.of(H:List lw):List AV->Option qY
 |[c0,c1,c2,c3,c4,c5]=>(dS c0).bind fun x0=>(lO.of H [c1,c2,c3,c4,c5]).bind fun x1=>some (.mk x0 x1)
 |_=>none
def qY.qa{c0 c1 c2 c3 c4 c5:AV}:qY.of H [c0,c1,c2,c3,c4,c5]=(dS c0).bind fun x0=>(lO.of H [c1,c2,c3,c4,c5]).bind fun x1=>some (.mk x0 x1):=rfl
def qY.mF(H:List lw)(x:qY):qY.of H [.str (sb x.name),.int .i64 x.type.kind,.int .i64 x.type.index,.str (sb x.type.name),.mj false 2 (mp nD.cells x.type.mK),.mj false 5 (mp lO.cells x.type.mR)]=some x:=by
 simp only[qY.qa,Bt,w8,GP,qF,DN,beq_self_eq_true,fF,kP,dL,lO.mF]
 try (cases x;rfl)
theorem qY.ow(H:List lw)(x:qY):qY.of H x.cells=some x:=by rw[qY.lB];exact qY.mF H x
def qY.qX{x:qY}(h:qY.of H cs=some x):nI H n cs x.cells:=by
 unfold qY.of at h;split at h
 ·simp only[fC,fD]at h;obtain⟨x0,h0,x1,h1,rfl⟩:=h;rw[qY.mr];exact(nI.append (nI.cons (S6 h0) nI.nil) (lO.qX h1))
 ·cases h
def qY.lU:VZ qY:=⟨qY.cells,qY.of,fun _ _ _ _ h=>qY.qX h,qY.nb⟩
def qY.row:Row qY:=⟨qY.cells,qY.of [],6,fun _ _ h=>(qY.qX (n:=0) h).qk,qY.nb⟩
def qY.nO(xs:List qY):tU (qY.of []) (mp qY.cells xs)=some xs:=Ci (qY.ow []) xs
def qY.xp:qY.row.enc=qY.cells/\qY.row.oP=qY.of []/\qY.row.sz=6/\qY.lU.enc=qY.cells/\qY.lU.oP=qY.of:=⟨rfl,rfl,rfl,rfl,rfl⟩
attribute [go_sem] qY.qa qY.ow qY.nO qY.xp
def qY.WN:(∀(y0:lH)(y1:lO),(qY.mk y0 y1).name=y0)/\(∀(y0:lH)(y1:lO),(qY.mk y0 y1).type=y1):=⟨fun _ _=>rfl,fun _ _=>rfl⟩
attribute [go_sem] qY.WN
def qY.reads:
 (∀x:qY,cellsOf (.agg x.cells)=some x.cells)/\
 (∀x:qY,l3 true 6 x.cells=some (.agg x.cells))/\
 (∀x:qY,l3 false 1 x.cells=some (.str (sb x.name)))/\
 (∀x:qY,l3 false 1 (x.cells.drop 1)=some (.int .i64 x.type.kind))/\
 (∀x:qY,l3 false 1 (x.cells.drop 2)=some (.int .i64 x.type.index))/\
 (∀x:qY,l3 false 1 (x.cells.drop 3)=some (.str (sb x.type.name)))/\
 (∀x:qY,l3 false 1 (x.cells.drop 4)=some (.mj false 2 (mp nD.cells x.type.mK)))/\
 (∀x:qY,l3 false 1 (x.cells.drop 5)=some (.mj false 5 (mp lO.cells x.type.mR)))/\
 (∀x:qY,l3 true 5 (x.cells.drop 1)=some (.agg x.type.cells)):=
 ⟨fun x=>by simp only[cellsOf,qY.nT,kW],
  fun x=>uU (qY.length x),
  fun x=>by rw[qY.lB];rfl,
  fun x=>by rw[qY.lB];rfl,
  fun x=>by rw[qY.lB];rfl,
  fun x=>by rw[qY.lB];rfl,
  fun x=>by rw[qY.lB];rfl,
  fun x=>by rw[qY.lB];rfl,
  fun x=>by rw[qY.lB];simp only[lO.lB,fG,fI];rfl⟩
attribute [go_sem] qY.reads qY.length qY.nT
mutual
inductive rW where
 |mk (kind:Int) (body:lO) (var:Int) (BV:List mA)
inductive mA where
 |mk (arh:lH) (MS:Bool) (EX:rW)
end
def rW.kind:rW->Int|.mk x _ _ _=>x
def rW.body:rW->lO|.mk _ x _ _=>x
def rW.var:rW->Int|.mk _ _ x _=>x
def rW.BV:rW->List mA|.mk _ _ _ x=>x
def mA.arh:mA->lH|.mk x _ _=>x
def mA.MS:mA->Bool|.mk _ x _=>x
def mA.EX:mA->rW|.mk _ _ x=>x
mutual
def rW.cells:rW->List AV
 |.mk kind body var BV=>[.int .i64 kind]++body.cells++[.int .i64 var,.mj false 10 (mA.Ps BV)]
def mA.cells:mA->List AV
 |.mk arh MS EX=>[.str (sb arh),.bool MS]++EX.cells
def mA.Ps:List mA->List (List AV)
 |[]=>[]
 |t::ts=>t.cells::mA.Ps ts
end
theorem mA.GU:∀ts:List mA,mA.Ps ts=mp mA.cells ts
 |[]=>by rw[sZ];rfl
 |t::ts=>by rw[mA.Ps,mA.GU ts,sZ,sZ];rfl
theorem rW.mr(x:rW):x.cells=[.int .i64 x.kind]++x.body.cells++[.int .i64 x.var,.mj false 10 (mp mA.cells x.BV)]:=by
 cases x;simp only[rW.cells,mA.GU];rfl
theorem mA.mr(x:mA):x.cells=[.str (sb x.arh),.bool x.MS]++x.EX.cells:=by
 cases x;simp only[mA.cells];rfl
theorem rW.lB(x:rW):x.cells=[.int .i64 x.kind,.int .i64 x.body.kind,.int .i64 x.body.index,.str (sb x.body.name),.mj false 2 (mp nD.cells x.body.mK),.mj false 5 (mp lO.cells x.body.mR),.int .i64 x.var,.mj false 10 (mp mA.cells x.BV)]:=by
 cases x;simp only[rW.cells,lO.lB,mA.GU,fH,fJ,fK];rfl
attribute [irreducible] rW.cells
attribute [irreducible] mA.cells
mutual
theorem rW.nb(n:Nat):∀x:rW,yg n x.cells
 | .mk kind body var BV=>by
   rw[rW.mr];exact(ub (ub ⟨trivial,trivial⟩ (lO.nb n body)) ⟨trivial,mA.Pe n BV,trivial⟩)
theorem mA.nb(n:Nat):∀x:mA,yg n x.cells
 | .mk arh MS EX=>by
   rw[mA.mr];exact(ub ⟨trivial,trivial,trivial⟩ (rW.nb n EX))
theorem mA.Pe(n:Nat):∀ts:List mA,Pe n (mp mA.cells ts)
 |[]=>by rw[sZ];trivial
 |t::ts=>by have:=mA.Pe n ts;rw[sZ]at this ⊢;exact⟨mA.nb n t,this⟩
end
mutual
def rW.of0:List AV->Option rW
 |[c0,c1,c2,c3,c4,c5,c6,.mj _ z7 r7]=>(dI .i64 c0).bind fun x0=>(lO.of [] [c1,c2,c3,c4,c5]).bind fun x1=>(dI .i64 c6).bind fun x2=>(bif DN z7 10 r7 then mA.ofR r7 else none).bind fun x3=>some (.mk x0 x1 x2 x3)
 |_=>none
def mA.of0:List AV->Option mA
 |c0::c1::rest=>(dS c0).bind fun x0=>(dB c1).bind fun x1=>(rW.of0 rest).bind fun x2=>some (.mk x0 x1 x2)
 |_=>none
def mA.ofR:List (List AV)->Option (List mA)
 |[]=>some []
 |r::rs=>(mA.of0 r).bind fun x=>(mA.ofR rs).bind fun xs=>some (x::xs)
end
mutual
def rW.Ck:∀x:rW,rW.of0 x.cells=some x
 | .mk kind body var BV=>by
   rw[rW.lB];show rW.of0 [.int .i64 kind,.int .i64 body.kind,.int .i64 body.index,.str (sb body.name),.mj false 2 (mp nD.cells body.mK),.mj false 5 (mp lO.cells body.mR),.int .i64 var,.mj false 10 (mp mA.cells BV)]=_;simp only[rW.of0,Bt,w8,GP,qF,DN,beq_self_eq_true,fF,kP,dL,mA.Oc BV,lO.mF]
def mA.Ck:∀x:mA,mA.of0 x.cells=some x
 | .mk arh MS EX=>by
   have e:mA.cells (.mk arh MS EX)=(AV.str (sb arh):AV)::(.bool MS)::EX.cells:=by rw[mA.mr];rfl
   rw[e];simp only[mA.of0,rW.Ck EX,Bt,w8,GP,qF]
def mA.Oc:∀xs:List mA,mA.ofR (mp mA.cells xs)=some xs
 |[]=>by rw[sZ];simp only[fM,mA.ofR]
 |x::xs=>by have h:=mA.Oc xs;rw[sZ]at h ⊢;simp only[fL,mA.ofR,mA.Ck x,h,qF]
end
mutual
def rW.Xo:∀(x:rW)(r:List AV),rW.of0 r=some x->yQ r x.cells
 | .mk kind body var BV,r,h=>by
   unfold rW.of0 at h;split at h
   ·simp only[fC,fD,rW.mk.injEq]at h;obtain⟨x0,h0,x1,h1,x2,h2,x3,h3,e0,e1,e2,e3⟩:=h;rw[e0]at h0;rw[e1]at h1;rw[e2]at h2;rw[e3]at h3;rw[rW.mr];exact(yQ.append (yQ.append (yQ.cons ((xT (H:=[]) (n:=0) h0).qk) yQ.nil) ((lO.qX (n:=0) h1).qk)) (yQ.cons ((xT (H:=[]) (n:=0) h2).qk) (yQ.cons (azw (mA.agK BV _) h3) yQ.nil)))
   ·cases h
def mA.Xo:∀(x:mA)(r:List AV),mA.of0 r=some x->yQ r x.cells
 | .mk arh MS EX,r,h=>by
   unfold mA.of0 at h;split at h
   ·simp only[fC,fD,mA.mk.injEq]at h;obtain⟨x0,h0,x1,h1,x2,h2,e0,e1,e2⟩:=h;rw[e0]at h0;rw[e1]at h1;rw[e2]at h2;rw[mA.mr];exact(yQ.append (yQ.cons ((S6 (H:=[]) (n:=0) h0).qk) (yQ.cons ((akS (H:=[]) (n:=0) h1).qk) yQ.nil)) (rW.Xo EX _ h2))
   ·cases h
def mA.agK:∀(xs:List mA)(rs:List (List AV)),mA.ofR rs=some xs->Va rs (mp mA.cells xs)
 |[],rs,h=>by
  cases rs with
  |nil=>rw[sZ];exact Va.nil
  |cons r rs=>
   simp only[mA.ofR,fC,fD]at h;obtain⟨_,_,_,_,h⟩:=h;cases h
 |x::xs,rs,h=>by
  cases rs with
  |nil=>simp only[mA.ofR,fD]at h;cases h
  |cons r rs=>
   simp only[mA.ofR,fC,fD,List.cons.injEq]at h;obtain⟨_,hx,_,hys,rfl,rfl⟩:=h;have h2:=mA.agK _ rs hys;rw[sZ]at h2 ⊢;exact Va.cons (mA.Xo _ r hx).aBx h2
end
def rW.row:Row rW:=⟨rW.cells,rW.of0,8,fun r x h=>rW.Xo x r h,rW.nb⟩
def mA.row:Row mA:=⟨mA.cells,mA.of0,10,fun r x h=>mA.Xo x r h,mA.nb⟩
def mA.nO(xs:List mA):tU mA.of0 (mp mA.cells xs)=some xs:=Ci mA.Ck xs
def rW.of(H:List lw):List AV->Option rW
 |[c0,c1,c2,c3,c4,c5,c6,c7]=>(dI .i64 c0).bind fun x0=>(lO.of H [c1,c2,c3,c4,c5]).bind fun x1=>(dI .i64 c6).bind fun x2=>(dL mA.row H c7).bind fun x3=>some (.mk x0 x1 x2 x3)
 |_=>none
def rW.qa {c0 c1 c2 c3 c4 c5 c6:AV}:rW.of H [c0,c1,c2,c3,c4,c5,c6,c7]=(dI .i64 c0).bind fun x0=>(lO.of H [c1,c2,c3,c4,c5]).bind fun x1=>(dI .i64 c6).bind fun x2=>(dL mA.row H c7).bind fun x3=>some (.mk x0 x1 x2 x3):=rfl
def rW.mF(H:List lw)(x:rW):rW.of H [.int .i64 x.kind,.int .i64 x.body.kind,.int .i64 x.body.index,.str (sb x.body.name),.mj false 2 (mp nD.cells x.body.mK),.mj false 5 (mp lO.cells x.body.mR),.int .i64 x.var,.mj false 10 (mp mA.cells x.BV)]=some x:=by
 simp only[rW.qa,Bt,w8,GP,qF,DN,beq_self_eq_true,fF,kP,dL,mA.nO,mA.row,lO.mF]
 try (cases x;rfl)
def rW.qX{x:rW}(h:rW.of H cs=some x):nI H n cs x.cells:=by
 unfold rW.of at h;split at h
 ·simp only[fC,fD]at h;obtain⟨x0,h0,x1,h1,x2,h2,x3,h3,rfl⟩:=h;rw[rW.mr];exact(nI.append (nI.append (nI.cons (xT h0) nI.nil) (lO.qX h1)) (nI.cons (xT h2) (nI.cons (Cj h3) nI.nil)))
 ·cases h
def rW.lU:VZ rW:=⟨rW.cells,rW.of,fun _ _ _ _ h=>rW.qX h,rW.nb⟩
def rW.xp:rW.row.enc=rW.cells/\rW.row.oP=rW.of0/\rW.row.sz=8/\rW.lU.enc=rW.cells/\rW.lU.oP=rW.of:=⟨rfl,rfl,rfl,rfl,rfl⟩
attribute [go_sem] rW.qa rW.xp rW.of0 rW.Ck
def rW.WN:(∀(y0:Int)(y1:lO)(y2:Int)(y3:List mA),(rW.mk y0 y1 y2 y3).kind=y0)/\(∀(y0:Int)(y1:lO)(y2:Int)(y3:List mA),(rW.mk y0 y1 y2 y3).body=y1)/\(∀(y0:Int)(y1:lO)(y2:Int)(y3:List mA),(rW.mk y0 y1 y2 y3).var=y2)/\(∀(y0:Int)(y1:lO)(y2:Int)(y3:List mA),(rW.mk y0 y1 y2 y3).BV=y3):=⟨fun _ _ _ _=>rfl,fun _ _ _ _=>rfl,fun _ _ _ _=>rfl,fun _ _ _ _=>rfl⟩
attribute [go_sem] rW.WN
def mA.of(H:List lw):List AV->Option mA
 |[c0,c1,c2,c3,c4,c5,c6,c7,c8,c9]=>(dS c0).bind fun x0=>(dB c1).bind fun x1=>(rW.of H [c2,c3,c4,c5,c6,c7,c8,c9]).bind fun x2=>some (.mk x0 x1 x2)
 |_=>none
def mA.qa {c0 c1 c2 c3 c4 c5 c6:AV}:mA.of H [c0,c1,c2,c3,c4,c5,c6,c7,c8,c9]=(dS c0).bind fun x0=>(dB c1).bind fun x1=>(rW.of H [c2,c3,c4,c5,c6,c7,c8,c9]).bind fun x2=>some (.mk x0 x1 x2):=rfl
def mA.qX{x:mA}(h:mA.of H cs=some x):nI H n cs x.cells:=by
 unfold mA.of at h;split at h
 ·simp only[fC,fD]at h;obtain⟨x0,h0,x1,h1,x2,h2,rfl⟩:=h;rw[mA.mr];exact(nI.append (nI.cons (S6 h0) (nI.cons (akS h1) nI.nil)) (rW.qX h2))
 ·cases h
def mA.lU:VZ mA:=⟨mA.cells,mA.of,fun _ _ _ _ h=>mA.qX h,mA.nb⟩
def mA.xp:mA.row.enc=mA.cells/\mA.row.oP=mA.of0/\mA.row.sz=10/\mA.lU.enc=mA.cells/\mA.lU.oP=mA.of:=⟨rfl,rfl,rfl,rfl,rfl⟩
attribute [go_sem] mA.qa mA.nO mA.xp mA.of0 mA.Ck
def mA.WN:(∀(y0:lH)(y1:Bool)(y2:rW),(mA.mk y0 y1 y2).arh=y0)/\(∀(y0:lH)(y1:Bool)(y2:rW),(mA.mk y0 y1 y2).MS=y1)/\(∀(y0:lH)(y1:Bool)(y2:rW),(mA.mk y0 y1 y2).EX=y2):=⟨fun _ _ _=>rfl,fun _ _ _=>rfl,fun _ _ _=>rfl⟩
attribute [go_sem] mA.WN
structure wW where
 name:lH
 type:lO
 asr:Int
 EX:rW
def wW.cells(x:wW):List AV:=[.str (sb x.name)]++x.type.cells++[.int .i64 x.asr]++x.EX.cells
theorem wW.mr(x:wW):x.cells=[.str (sb x.name)]++x.type.cells++[.int .i64 x.asr]++x.EX.cells:=rfl
theorem wW.lB(x:wW):x.cells=[.str (sb x.name),.int .i64 x.type.kind,.int .i64 x.type.index,.str (sb x.type.name),.mj false 2 (mp nD.cells x.type.mK),.mj false 5 (mp lO.cells x.type.mR),.int .i64 x.asr,.int .i64 x.EX.kind,.int .i64 x.EX.body.kind,.int .i64 x.EX.body.index,.str (sb x.EX.body.name),.mj false 2 (mp nD.cells x.EX.body.mK),.mj false 5 (mp lO.cells x.EX.body.mR),.int .i64 x.EX.var,.mj false 10 (mp mA.cells x.EX.BV)]:=by
 simp only[wW.cells,lO.lB,rW.lB,fH,fJ,fK]
attribute [irreducible] wW.cells
theorem wW.length(x:wW):x.cells.length=15:=by rw[wW.lB];rfl
def wW.nT(x:wW):x.cells.all AV.nT=true:=by rw[wW.lB];rfl
theorem wW.nb(n:Nat)(x:wW):yg n x.cells:=by
 rw[wW.mr];exact(ub (ub (ub ⟨trivial,trivial⟩ (lO.nb n x.type)) ⟨trivial,trivial⟩) (rW.nb n x.EX))
def wW.of(H:List lw):List AV->Option wW
 |[c0,c1,c2,c3,c4,c5,c6,c7,c8,c9,c10,c11,c12,c13,c14]=>(dS c0).bind fun x0=>(lO.of H [c1,c2,c3,c4,c5]).bind fun x1=>(dI .i64 c6).bind fun x2=>(rW.of H [c7,c8,c9,c10,c11,c12,c13,c14]).bind fun x3=>some (.mk x0 x1 x2 x3)
 |_=>none
def wW.qa {c0 c1 c2 c3 c4 c5 c6 c11 c12 c13 c14:AV}:wW.of H [c0,c1,c2,c3,c4,c5,c6,c7,c8,c9,c10,c11,c12,c13,c14]=(dS c0).bind fun x0=>(lO.of H [c1,c2,c3,c4,c5]).bind fun x1=>(dI .i64 c6).bind fun x2=>(rW.of H [c7,c8,c9,c10,c11,c12,c13,c14]).bind fun x3=>some (.mk x0 x1 x2 x3):=rfl
def wW.mF(H:List lw)(x:wW):wW.of H [.str (sb x.name),.int .i64 x.type.kind,.int .i64 x.type.index,.str (sb x.type.name),.mj false 2 (mp nD.cells x.type.mK),.mj false 5 (mp lO.cells x.type.mR),.int .i64 x.asr,.int .i64 x.EX.kind,.int .i64 x.EX.body.kind,.int .i64 x.EX.body.index,.str (sb x.EX.body.name),.mj false 2 (mp nD.cells x.EX.body.mK),.mj false 5 (mp lO.cells x.EX.body.mR),.int .i64 x.EX.var,.mj false 10 (mp mA.cells x.EX.BV)]=some x:=by
 simp only[wW.qa,Bt,w8,GP,qF,DN,beq_self_eq_true,fF,kP,dL,lO.mF,rW.mF]
 try (cases x;rfl)
theorem wW.ow(H:List lw)(x:wW):wW.of H x.cells=some x:=by rw[wW.lB];exact wW.mF H x
def wW.qX{x:wW}(h:wW.of H cs=some x):nI H n cs x.cells:=by
 unfold wW.of at h;split at h
 ·simp only[fC,fD]at h;obtain⟨x0,h0,x1,h1,x2,h2,x3,h3,rfl⟩:=h;rw[wW.mr];exact(nI.append (nI.append (nI.append (nI.cons (S6 h0) nI.nil) (lO.qX h1)) (nI.cons (xT h2) nI.nil)) (rW.qX h3))
 ·cases h
def wW.lU:VZ wW:=⟨wW.cells,wW.of,fun _ _ _ _ h=>wW.qX h,wW.nb⟩
def wW.row:Row wW:=⟨wW.cells,wW.of [],15,fun _ _ h=>(wW.qX (n:=0) h).qk,wW.nb⟩
def wW.nO(xs:List wW):tU (wW.of []) (mp wW.cells xs)=some xs:=Ci (wW.ow []) xs
def wW.xp:wW.row.enc=wW.cells/\wW.row.oP=wW.of []/\wW.row.sz=15/\wW.lU.enc=wW.cells/\wW.lU.oP=wW.of:=⟨rfl,rfl,rfl,rfl,rfl⟩
attribute [go_sem] wW.qa wW.ow wW.nO wW.xp
def wW.WN:(∀(y0:lH)(y1:lO)(y2:Int)(y3:rW),(wW.mk y0 y1 y2 y3).name=y0)/\(∀(y0:lH)(y1:lO)(y2:Int)(y3:rW),(wW.mk y0 y1 y2 y3).type=y1)/\(∀(y0:lH)(y1:lO)(y2:Int)(y3:rW),(wW.mk y0 y1 y2 y3).asr=y2)/\(∀(y0:lH)(y1:lO)(y2:Int)(y3:rW),(wW.mk y0 y1 y2 y3).EX=y3):=⟨fun _ _ _ _=>rfl,fun _ _ _ _=>rfl,fun _ _ _ _=>rfl,fun _ _ _ _=>rfl⟩
attribute [go_sem] wW.WN
def wW.reads:
 (∀x:wW,cellsOf (.agg x.cells)=some x.cells)/\
 (∀x:wW,l3 true 15 x.cells=some (.agg x.cells))/\
 (∀x:wW,l3 false 1 x.cells=some (.str (sb x.name)))/\
 (∀x:wW,l3 false 1 (x.cells.drop 1)=some (.int .i64 x.type.kind))/\
 (∀x:wW,l3 false 1 (x.cells.drop 2)=some (.int .i64 x.type.index))/\
 (∀x:wW,l3 false 1 (x.cells.drop 3)=some (.str (sb x.type.name)))/\
 (∀x:wW,l3 false 1 (x.cells.drop 4)=some (.mj false 2 (mp nD.cells x.type.mK)))/\
 (∀x:wW,l3 false 1 (x.cells.drop 5)=some (.mj false 5 (mp lO.cells x.type.mR)))/\
 (∀x:wW,l3 false 1 (x.cells.drop 6)=some (.int .i64 x.asr))/\
 (∀x:wW,l3 false 1 (x.cells.drop 7)=some (.int .i64 x.EX.kind))/\
 (∀x:wW,l3 false 1 (x.cells.drop 8)=some (.int .i64 x.EX.body.kind))/\
 (∀x:wW,l3 false 1 (x.cells.drop 9)=some (.int .i64 x.EX.body.index))/\
 (∀x:wW,l3 false 1 (x.cells.drop 10)=some (.str (sb x.EX.body.name)))/\
 (∀x:wW,l3 false 1 (x.cells.drop 11)=some (.mj false 2 (mp nD.cells x.EX.body.mK)))/\
 (∀x:wW,l3 false 1 (x.cells.drop 12)=some (.mj false 5 (mp lO.cells x.EX.body.mR)))/\
 (∀x:wW,l3 false 1 (x.cells.drop 13)=some (.int .i64 x.EX.var))/\
 (∀x:wW,l3 false 1 (x.cells.drop 14)=some (.mj false 10 (mp mA.cells x.EX.BV)))/\
 (∀x:wW,l3 true 5 (x.cells.drop 1)=some (.agg x.type.cells))/\
 (∀x:wW,l3 true 8 (x.cells.drop 7)=some (.agg x.EX.cells))/\
 (∀x:wW,l3 true 5 (x.cells.drop 8)=some (.agg x.EX.body.cells)):=
 ⟨fun x=>by simp only[cellsOf,wW.nT,kW],
  fun x=>uU (wW.length x),
  fun x=>by rw[wW.lB];rfl,
  fun x=>by rw[wW.lB];rfl,
  fun x=>by rw[wW.lB];rfl,
  fun x=>by rw[wW.lB];rfl,
  fun x=>by rw[wW.lB];rfl,
  fun x=>by rw[wW.lB];rfl,
  fun x=>by rw[wW.lB];rfl,
  fun x=>by rw[wW.lB];rfl,
  fun x=>by rw[wW.lB];rfl,
  fun x=>by rw[wW.lB];rfl,
  fun x=>by rw[wW.lB];rfl,
  fun x=>by rw[wW.lB];rfl,
  fun x=>by rw[wW.lB];rfl,
  fun x=>by rw[wW.lB];rfl,
  fun x=>by rw[wW.lB];rfl,
  fun x=>by rw[wW.lB];simp only[lO.lB,rW.lB,fG,fI];rfl,
  fun x=>by rw[wW.lB];simp only[lO.lB,rW.lB,fG,fI];rfl,
  fun x=>by rw[wW.lB];simp only[lO.lB,rW.lB,fG,fI];rfl⟩
attribute [go_sem] wW.reads wW.length wW.nT
structure nB where
 kind:Int
 name:lH
 params:Int
 type:lO
 value:lO
 ass:Int
 ast:List qY
 Sa:mT
 aCa:List wW
def nB.cells(x:nB):List AV:=[.int .i64 x.kind,.str (sb x.name),.int .i64 x.params]++x.type.cells++x.value.cells++[.int .i64 x.ass,.mj false 6 (mp qY.cells x.ast)]++x.Sa.cells++[.mj false 15 (mp wW.cells x.aCa)]
theorem nB.mr(x:nB):x.cells=[.int .i64 x.kind,.str (sb x.name),.int .i64 x.params]++x.type.cells++x.value.cells++[.int .i64 x.ass,.mj false 6 (mp qY.cells x.ast)]++x.Sa.cells++[.mj false 15 (mp wW.cells x.aCa)]:=rfl
theorem nB.lB(x:nB):x.cells=[.int .i64 x.kind,.str (sb x.name),.int .i64 x.params,.int .i64 x.type.kind,.int .i64 x.type.index,.str (sb x.type.name),.mj false 2 (mp nD.cells x.type.mK),.mj false 5 (mp lO.cells x.type.mR),.int .i64 x.value.kind,.int .i64 x.value.index,.str (sb x.value.name),.mj false 2 (mp nD.cells x.value.mK),.mj false 5 (mp lO.cells x.value.mR),.int .i64 x.ass,.mj false 6 (mp qY.cells x.ast),.int .i64 x.Sa.params,.int .i64 x.Sa.type.kind,.int .i64 x.Sa.type.index,.str (sb x.Sa.type.name),.mj false 2 (mp nD.cells x.Sa.type.mK),.mj false 5 (mp lO.cells x.Sa.type.mR),.mj false 5 (mp lO.cells x.Sa.ai3),.mj false 15 (mp wW.cells x.aCa)]:=by
 simp only[nB.cells,mT.lB,lO.lB,fH,fJ,fK]
attribute [irreducible] nB.cells
theorem nB.length(x:nB):x.cells.length=23:=by rw[nB.lB];rfl
def nB.nT(x:nB):x.cells.all AV.nT=true:=by rw[nB.lB];rfl
theorem nB.nb(n:Nat)(x:nB):yg n x.cells:=by
 rw[nB.mr];exact(ub (ub (ub (ub (ub ⟨trivial,trivial,trivial,trivial⟩ (lO.nb n x.type)) (lO.nb n x.value)) ⟨trivial,p7 (qY.nb n) _,trivial⟩) (mT.nb n x.Sa)) ⟨p7 (wW.nb n) _,trivial⟩)
def nB.of(H:List lw):List AV->Option nB
 |[c0,c1,c2,c3,c4,c5,c6,c7,c8,c9,c10,c11,c12,c13,c14,c15,c16,c17,c18,c19,c20,c21,c22]=>(dI .i64 c0).bind fun x0=>(dS c1).bind fun x1=>(dI .i64 c2).bind fun x2=>(lO.of H [c3,c4,c5,c6,c7]).bind fun x3=>(lO.of H [c8,c9,c10,c11,c12]).bind fun x4=>(dI .i64 c13).bind fun x5=>(dL qY.row H c14).bind fun x6=>(mT.of H [c15,c16,c17,c18,c19,c20,c21]).bind fun x7=>(dL wW.row H c22).bind fun x8=>some (.mk x0 x1 x2 x3 x4 x5 x6 x7 x8)
 |_=>none
def nB.qa {c0 c1 c2 c3 c4 c5 c6 c11 c12 c13 c14 c15 c16 c17 c18 c19 c20 c21 c22:AV}:nB.of H [c0,c1,c2,c3,c4,c5,c6,c7,c8,c9,c10,c11,c12,c13,c14,c15,c16,c17,c18,c19,c20,c21,c22]=(dI .i64 c0).bind fun x0=>(dS c1).bind fun x1=>(dI .i64 c2).bind fun x2=>(lO.of H [c3,c4,c5,c6,c7]).bind fun x3=>(lO.of H [c8,c9,c10,c11,c12]).bind fun x4=>(dI .i64 c13).bind fun x5=>(dL qY.row H c14).bind fun x6=>(mT.of H [c15,c16,c17,c18,c19,c20,c21]).bind fun x7=>(dL wW.row H c22).bind fun x8=>some (.mk x0 x1 x2 x3 x4 x5 x6 x7 x8):=rfl
def nB.mF(H:List lw)(x:nB):nB.of H [.int .i64 x.kind,.str (sb x.name),.int .i64 x.params,.int .i64 x.type.kind,.int .i64 x.type.index,.str (sb x.type.name),.mj false 2 (mp nD.cells x.type.mK),.mj false 5 (mp lO.cells x.type.mR),.int .i64 x.value.kind,.int .i64 x.value.index,.str (sb x.value.name),.mj false 2 (mp nD.cells x.value.mK),.mj false 5 (mp lO.cells x.value.mR),.int .i64 x.ass,.mj false 6 (mp qY.cells x.ast),.int .i64 x.Sa.params,.int .i64 x.Sa.type.kind,.int .i64 x.Sa.type.index,.str (sb x.Sa.type.name),.mj false 2 (mp nD.cells x.Sa.type.mK),.mj false 5 (mp lO.cells x.Sa.type.mR),.mj false 5 (mp lO.cells x.Sa.ai3),.mj false 15 (mp wW.cells x.aCa)]=some x:=by
 simp only[nB.qa,Bt,w8,GP,qF,DN,beq_self_eq_true,fF,kP,dL,qY.nO,qY.row,wW.nO,wW.row,mT.mF,lO.mF]
 try (cases x;rfl)
theorem nB.ow(H:List lw)(x:nB):nB.of H x.cells=some x:=by rw[nB.lB];exact nB.mF H x
def nB.qX{x:nB}(h:nB.of H cs=some x):nI H n cs x.cells:=by
 unfold nB.of at h;split at h
 ·simp only[fC,fD]at h;obtain⟨x0,h0,x1,h1,x2,h2,x3,h3,x4,h4,x5,h5,x6,h6,x7,h7,x8,h8,rfl⟩:=h;rw[nB.mr];exact(nI.append (nI.append (nI.append (nI.append (nI.append (nI.cons (xT h0) (nI.cons (S6 h1) (nI.cons (xT h2) nI.nil))) (lO.qX h3)) (lO.qX h4)) (nI.cons (xT h5) (nI.cons (Cj h6) nI.nil))) (mT.qX h7)) (nI.cons (Cj h8) nI.nil))
 ·cases h
def nB.lU:VZ nB:=⟨nB.cells,nB.of,fun _ _ _ _ h=>nB.qX h,nB.nb⟩
def nB.row:Row nB:=⟨nB.cells,nB.of [],23,fun _ _ h=>(nB.qX (n:=0) h).qk,nB.nb⟩
def nB.nO(xs:List nB):tU (nB.of []) (mp nB.cells xs)=some xs:=Ci (nB.ow []) xs
def nB.xp:nB.row.enc=nB.cells/\nB.row.oP=nB.of []/\nB.row.sz=23/\nB.lU.enc=nB.cells/\nB.lU.oP=nB.of:=⟨rfl,rfl,rfl,rfl,rfl⟩
attribute [go_sem] nB.qa nB.ow nB.nO nB.xp
def nB.WN:(∀(y0:Int)(y1:lH)(y2:Int)(y3:lO)(y4:lO)(y5:Int)(y6:List qY)(y7:mT)(y8:List wW),(nB.mk y0 y1 y2 y3 y4 y5 y6 y7 y8).kind=y0)/\(∀(y0:Int)(y1:lH)(y2:Int)(y3:lO)(y4:lO)(y5:Int)(y6:List qY)(y7:mT)(y8:List wW),(nB.mk y0 y1 y2 y3 y4 y5 y6 y7 y8).name=y1)/\(∀(y0:Int)(y1:lH)(y2:Int)(y3:lO)(y4:lO)(y5:Int)(y6:List qY)(y7:mT)(y8:List wW),(nB.mk y0 y1 y2 y3 y4 y5 y6 y7 y8).params=y2)/\(∀(y0:Int)(y1:lH)(y2:Int)(y3:lO)(y4:lO)(y5:Int)(y6:List qY)(y7:mT)(y8:List wW),(nB.mk y0 y1 y2 y3 y4 y5 y6 y7 y8).type=y3)/\(∀(y0:Int)(y1:lH)(y2:Int)(y3:lO)(y4:lO)(y5:Int)(y6:List qY)(y7:mT)(y8:List wW),(nB.mk y0 y1 y2 y3 y4 y5 y6 y7 y8).value=y4)/\(∀(y0:Int)(y1:lH)(y2:Int)(y3:lO)(y4:lO)(y5:Int)(y6:List qY)(y7:mT)(y8:List wW),(nB.mk y0 y1 y2 y3 y4 y5 y6 y7 y8).ass=y5)/\(∀(y0:Int)(y1:lH)(y2:Int)(y3:lO)(y4:lO)(y5:Int)(y6:List qY)(y7:mT)(y8:List wW),(nB.mk y0 y1 y2 y3 y4 y5 y6 y7 y8).ast=y6)/\(∀(y0:Int)(y1:lH)(y2:Int)(y3:lO)(y4:lO)(y5:Int)(y6:List qY)(y7:mT)(y8:List wW),(nB.mk y0 y1 y2 y3 y4 y5 y6 y7 y8).Sa=y7)/\(∀(y0:Int)(y1:lH)(y2:Int)(y3:lO)(y4:lO)(y5:Int)(y6:List qY)(y7:mT)(y8:List wW),(nB.mk y0 y1 y2 y3 y4 y5 y6 y7 y8).aCa=y8):=⟨fun _ _ _ _ _ _ _ _ _=>rfl,fun _ _ _ _ _ _ _ _ _=>rfl,fun _ _ _ _ _ _ _ _ _=>rfl,fun _ _ _ _ _ _ _ _ _=>rfl,fun _ _ _ _ _ _ _ _ _=>rfl,fun _ _ _ _ _ _ _ _ _=>rfl,fun _ _ _ _ _ _ _ _ _=>rfl,fun _ _ _ _ _ _ _ _ _=>rfl,fun _ _ _ _ _ _ _ _ _=>rfl⟩
attribute [go_sem] nB.WN
def nB.nbs:(∀(n:Nat)(x:nB),Go.Abs.yg n x.cells=True)/\∀(n:Nat)(xs:List nB),Go.Abs.Pe n (mp nB.cells xs)=True:=⟨fun n x=>eq_true (nB.nb n x),fun n xs=>eq_true (p7 (nB.nb n) xs)⟩
def nB.vw(H:List lw)(x:nB):vwL H x.cells=some (x.cells,[]):=L1 H _ (nB.nb 0 x)
attribute [go_sem] nB.vw
def nB.reads:
 (∀x:nB,cellsOf (.agg x.cells)=some x.cells)/\
 (∀x:nB,l3 true 23 x.cells=some (.agg x.cells))/\
 (∀x:nB,l3 false 1 x.cells=some (.int .i64 x.kind))/\
 (∀x:nB,l3 false 1 (x.cells.drop 1)=some (.str (sb x.name)))/\
 (∀x:nB,l3 false 1 (x.cells.drop 2)=some (.int .i64 x.params))/\
 (∀x:nB,l3 false 1 (x.cells.drop 3)=some (.int .i64 x.type.kind))/\
 (∀x:nB,l3 false 1 (x.cells.drop 4)=some (.int .i64 x.type.index))/\
 (∀x:nB,l3 false 1 (x.cells.drop 5)=some (.str (sb x.type.name)))/\
 (∀x:nB,l3 false 1 (x.cells.drop 6)=some (.mj false 2 (mp nD.cells x.type.mK)))/\
 (∀x:nB,l3 false 1 (x.cells.drop 7)=some (.mj false 5 (mp lO.cells x.type.mR)))/\
 (∀x:nB,l3 false 1 (x.cells.drop 8)=some (.int .i64 x.value.kind))/\
 (∀x:nB,l3 false 1 (x.cells.drop 9)=some (.int .i64 x.value.index))/\
 (∀x:nB,l3 false 1 (x.cells.drop 10)=some (.str (sb x.value.name)))/\
 (∀x:nB,l3 false 1 (x.cells.drop 11)=some (.mj false 2 (mp nD.cells x.value.mK)))/\
 (∀x:nB,l3 false 1 (x.cells.drop 12)=some (.mj false 5 (mp lO.cells x.value.mR)))/\
 (∀x:nB,l3 false 1 (x.cells.drop 13)=some (.int .i64 x.ass))/\
 (∀x:nB,l3 false 1 (x.cells.drop 14)=some (.mj false 6 (mp qY.cells x.ast)))/\
 (∀x:nB,l3 false 1 (x.cells.drop 15)=some (.int .i64 x.Sa.params))/\
 (∀x:nB,l3 false 1 (x.cells.drop 16)=some (.int .i64 x.Sa.type.kind))/\
 (∀x:nB,l3 false 1 (x.cells.drop 17)=some (.int .i64 x.Sa.type.index))/\
 (∀x:nB,l3 false 1 (x.cells.drop 18)=some (.str (sb x.Sa.type.name)))/\
 (∀x:nB,l3 false 1 (x.cells.drop 19)=some (.mj false 2 (mp nD.cells x.Sa.type.mK)))/\
 (∀x:nB,l3 false 1 (x.cells.drop 20)=some (.mj false 5 (mp lO.cells x.Sa.type.mR)))/\
 (∀x:nB,l3 false 1 (x.cells.drop 21)=some (.mj false 5 (mp lO.cells x.Sa.ai3)))/\
 (∀x:nB,l3 false 1 (x.cells.drop 22)=some (.mj false 15 (mp wW.cells x.aCa)))/\
 (∀x:nB,l3 true 5 (x.cells.drop 3)=some (.agg x.type.cells))/\
 (∀x:nB,l3 true 5 (x.cells.drop 8)=some (.agg x.value.cells))/\
 (∀x:nB,l3 true 7 (x.cells.drop 15)=some (.agg x.Sa.cells))/\
 (∀x:nB,l3 true 5 (x.cells.drop 16)=some (.agg x.Sa.type.cells)):=
 ⟨fun x=>by simp only[cellsOf,nB.nT,kW],
  fun x=>uU (nB.length x),
  fun x=>by rw[nB.lB];rfl,
  fun x=>by rw[nB.lB];rfl,
  fun x=>by rw[nB.lB];rfl,
  fun x=>by rw[nB.lB];rfl,
  fun x=>by rw[nB.lB];rfl,
  fun x=>by rw[nB.lB];rfl,
  fun x=>by rw[nB.lB];rfl,
  fun x=>by rw[nB.lB];rfl,
  fun x=>by rw[nB.lB];rfl,
  fun x=>by rw[nB.lB];rfl,
  fun x=>by rw[nB.lB];rfl,
  fun x=>by rw[nB.lB];rfl,
  fun x=>by rw[nB.lB];rfl,
  fun x=>by rw[nB.lB];rfl,
  fun x=>by rw[nB.lB];rfl,
  fun x=>by rw[nB.lB];rfl,
  fun x=>by rw[nB.lB];rfl,
  fun x=>by rw[nB.lB];rfl,
  fun x=>by rw[nB.lB];rfl,
  fun x=>by rw[nB.lB];rfl,
  fun x=>by rw[nB.lB];rfl,
  fun x=>by rw[nB.lB];rfl,
  fun x=>by rw[nB.lB];rfl,
  fun x=>by rw[nB.lB];simp only[mT.lB,lO.lB,fG,fI];rfl,
  fun x=>by rw[nB.lB];simp only[mT.lB,lO.lB,fG,fI];rfl,
  fun x=>by rw[nB.lB];simp only[mT.lB,lO.lB,fG,fI];rfl,
  fun x=>by rw[nB.lB];simp only[mT.lB,lO.lB,fG,fI];rfl⟩
attribute [go_sem] nB.nbs nB.reads nB.length nB.nT
structure l7 where
 name:lH
 awN:List Int
def l7.cells(x:l7):List AV:=[.str (sb x.name),.mj false 1 (mp Xi x.awN)]
theorem l7.mr(x:l7):x.cells=[.str (sb x.name),.mj false 1 (mp Xi x.awN)]:=rfl
theorem l7.lB(x:l7):x.cells=[.str (sb x.name),.mj false 1 (mp Xi x.awN)]:=rfl
attribute [irreducible] l7.cells
theorem l7.nb(n:Nat)(x:l7):yg n x.cells:=by
 rw[l7.mr];exact⟨trivial,p7 (ap3 n) _,trivial⟩
def l7.of(H:List lw):List AV->Option l7
 |[c0,c1]=>(dS c0).bind fun x0=>(dL aDy H c1).bind fun x1=>some (.mk x0 x1)
 |_=>none
def l7.qa{c0 c1:AV}:l7.of H [c0,c1]=(dS c0).bind fun x0=>(dL aDy H c1).bind fun x1=>some (.mk x0 x1):=rfl
def l7.mF(H:List lw)(x:l7):l7.of H [.str (sb x.name),.mj false 1 (mp Xi x.awN)]=some x:=by
 simp only[l7.qa,Bt,w8,GP,qF,DN,beq_self_eq_true,fF,kP,dL,Dz,aDz]
 try (cases x;rfl)
theorem l7.ow(H:List lw)(x:l7):l7.of H x.cells=some x:=by rw[l7.lB];exact l7.mF H x
def l7.qX{x:l7}(h:l7.of H cs=some x):nI H n cs x.cells:=by
 unfold l7.of at h;split at h
 ·simp only[fC,fD]at h;obtain⟨x0,h0,x1,h1,rfl⟩:=h;rw[l7.mr];exact(nI.cons (S6 h0) (nI.cons (Cj h1) nI.nil))
 ·cases h
def l7.lU:VZ l7:=⟨l7.cells,l7.of,fun _ _ _ _ h=>l7.qX h,l7.nb⟩
def l7.row:Row l7:=⟨l7.cells,l7.of [],2,fun _ _ h=>(l7.qX (n:=0) h).qk,l7.nb⟩
def l7.nO(xs:List l7):tU (l7.of []) (mp l7.cells xs)=some xs:=Ci (l7.ow []) xs
def l7.xp:l7.row.enc=l7.cells/\l7.row.oP=l7.of []/\l7.row.sz=2/\l7.lU.enc=l7.cells/\l7.lU.oP=l7.of:=⟨rfl,rfl,rfl,rfl,rfl⟩
attribute [go_sem] l7.qa l7.ow l7.nO l7.xp
def l7.WN:(∀(y0:lH)(y1:List Int),(l7.mk y0 y1).name=y0)/\(∀(y0:lH)(y1:List Int),(l7.mk y0 y1).awN=y1):=⟨fun _ _=>rfl,fun _ _=>rfl⟩
attribute [go_sem] l7.WN
def l7.nbs:(∀(n:Nat)(x:l7),Go.Abs.yg n x.cells=True)/\∀(n:Nat)(xs:List l7),Go.Abs.Pe n (mp l7.cells xs)=True:=⟨fun n x=>eq_true (l7.nb n x),fun n xs=>eq_true (p7 (l7.nb n) xs)⟩
attribute [go_sem] l7.nbs
structure mm where
 env:List nB
 GV:List l7
 Pt:List lH
 instances:List lH
 GW:List k7
 Xp:List lH
 opens:List lH
def mm.cells(x:mm):List AV:=[.mj false 23 (mp nB.cells x.env),.mj false 2 (mp l7.cells x.GV),.mj false 1 (mp mS x.Pt),.mj false 1 (mp mS x.instances),.mj false 4 (mp k7.cells x.GW),.mj false 1 (mp mS x.Xp),.mj false 1 (mp mS x.opens)]
theorem mm.mr(x:mm):x.cells=[.mj false 23 (mp nB.cells x.env),.mj false 2 (mp l7.cells x.GV),.mj false 1 (mp mS x.Pt),.mj false 1 (mp mS x.instances),.mj false 4 (mp k7.cells x.GW),.mj false 1 (mp mS x.Xp),.mj false 1 (mp mS x.opens)]:=rfl
theorem mm.lB(x:mm):x.cells=[.mj false 23 (mp nB.cells x.env),.mj false 2 (mp l7.cells x.GV),.mj false 1 (mp mS x.Pt),.mj false 1 (mp mS x.instances),.mj false 4 (mp k7.cells x.GW),.mj false 1 (mp mS x.Xp),.mj false 1 (mp mS x.opens)]:=rfl
attribute [irreducible] mm.cells
theorem mm.length(x:mm):x.cells.length=7:=by rw[mm.lB];rfl
def mm.nT(x:mm):x.cells.all AV.nT=true:=by rw[mm.lB];rfl
theorem mm.nb(n:Nat)(x:mm):yg n x.cells:=by
 rw[mm.mr];exact⟨p7 (nB.nb n) _,p7 (l7.nb n) _,p7 (GS n) _,p7 (GS n) _,p7 (k7.nb n) _,p7 (GS n) _,p7 (GS n) _,trivial⟩
def mm.of(H:List lw):List AV->Option mm
 |[c0,c1,c2,c3,c4,c5,c6]=>(dL nB.row H c0).bind fun x0=>(dL l7.row H c1).bind fun x1=>(dL mJ H c2).bind fun x2=>(dL mJ H c3).bind fun x3=>(dL k7.row H c4).bind fun x4=>(dL mJ H c5).bind fun x5=>(dL mJ H c6).bind fun x6=>some (.mk x0 x1 x2 x3 x4 x5 x6)
 |_=>none
def mm.qa{c0 c1 c2 c3 c4 c5 c6:AV}:mm.of H [c0,c1,c2,c3,c4,c5,c6]=(dL nB.row H c0).bind fun x0=>(dL l7.row H c1).bind fun x1=>(dL mJ H c2).bind fun x2=>(dL mJ H c3).bind fun x3=>(dL k7.row H c4).bind fun x4=>(dL mJ H c5).bind fun x5=>(dL mJ H c6).bind fun x6=>some (.mk x0 x1 x2 x3 x4 x5 x6):=rfl
def mm.mF(H:List lw)(x:mm):mm.of H [.mj false 23 (mp nB.cells x.env),.mj false 2 (mp l7.cells x.GV),.mj false 1 (mp mS x.Pt),.mj false 1 (mp mS x.instances),.mj false 4 (mp k7.cells x.GW),.mj false 1 (mp mS x.Xp),.mj false 1 (mp mS x.opens)]=some x:=by
 simp only[mm.qa,Bt,w8,GP,qF,DN,beq_self_eq_true,fF,kP,dL,nB.nO,nB.row,l7.nO,l7.row,k7.nO,k7.row,Dz,adv]
 try (cases x;rfl)
theorem mm.ow(H:List lw)(x:mm):mm.of H x.cells=some x:=by rw[mm.lB];exact mm.mF H x
def mm.qX{x:mm}(h:mm.of H cs=some x):nI H n cs x.cells:=by
 unfold mm.of at h;split at h
 ·simp only[fC,fD]at h;obtain⟨x0,h0,x1,h1,x2,h2,x3,h3,x4,h4,x5,h5,x6,h6,rfl⟩:=h;rw[mm.mr];exact(nI.cons (Cj h0) (nI.cons (Cj h1) (nI.cons (Cj h2) (nI.cons (Cj h3) (nI.cons (Cj h4) (nI.cons (Cj h5) (nI.cons (Cj h6) nI.nil)))))))
 ·cases h
def mm.lU:VZ mm:=⟨mm.cells,mm.of,fun _ _ _ _ h=>mm.qX h,mm.nb⟩
def mm.row:Row mm:=⟨mm.cells,mm.of [],7,fun _ _ h=>(mm.qX (n:=0) h).qk,mm.nb⟩
def mm.xp:mm.row.enc=mm.cells/\mm.row.oP=mm.of []/\mm.row.sz=7/\mm.lU.enc=mm.cells/\mm.lU.oP=mm.of:=⟨rfl,rfl,rfl,rfl,rfl⟩
def mm.eta(x:mm):mm.mk x.env x.GV x.Pt x.instances x.GW x.Xp x.opens=x:=by cases x;rfl
attribute [go_sem] mm.qa mm.ow mm.xp mm.eta
def mm.WN:(∀(y0:List nB)(y1:List l7)(y2:List lH)(y3:List lH)(y4:List k7)(y5:List lH)(y6:List lH),(mm.mk y0 y1 y2 y3 y4 y5 y6).env=y0)/\(∀(y0:List nB)(y1:List l7)(y2:List lH)(y3:List lH)(y4:List k7)(y5:List lH)(y6:List lH),(mm.mk y0 y1 y2 y3 y4 y5 y6).GV=y1)/\(∀(y0:List nB)(y1:List l7)(y2:List lH)(y3:List lH)(y4:List k7)(y5:List lH)(y6:List lH),(mm.mk y0 y1 y2 y3 y4 y5 y6).Pt=y2)/\(∀(y0:List nB)(y1:List l7)(y2:List lH)(y3:List lH)(y4:List k7)(y5:List lH)(y6:List lH),(mm.mk y0 y1 y2 y3 y4 y5 y6).instances=y3)/\(∀(y0:List nB)(y1:List l7)(y2:List lH)(y3:List lH)(y4:List k7)(y5:List lH)(y6:List lH),(mm.mk y0 y1 y2 y3 y4 y5 y6).GW=y4)/\(∀(y0:List nB)(y1:List l7)(y2:List lH)(y3:List lH)(y4:List k7)(y5:List lH)(y6:List lH),(mm.mk y0 y1 y2 y3 y4 y5 y6).Xp=y5)/\(∀(y0:List nB)(y1:List l7)(y2:List lH)(y3:List lH)(y4:List k7)(y5:List lH)(y6:List lH),(mm.mk y0 y1 y2 y3 y4 y5 y6).opens=y6):=⟨fun _ _ _ _ _ _ _=>rfl,fun _ _ _ _ _ _ _=>rfl,fun _ _ _ _ _ _ _=>rfl,fun _ _ _ _ _ _ _=>rfl,fun _ _ _ _ _ _ _=>rfl,fun _ _ _ _ _ _ _=>rfl,fun _ _ _ _ _ _ _=>rfl⟩
attribute [go_sem] mm.WN
def mm.nbs:(∀(n:Nat)(x:mm),Go.Abs.yg n x.cells=True)/\∀(n:Nat)(xs:List mm),Go.Abs.Pe n (mp mm.cells xs)=True:=⟨fun n x=>eq_true (mm.nb n x),fun n xs=>eq_true (p7 (mm.nb n) xs)⟩
def mm.adH:(∀(Y:Nat->Nat)(x:mm),vC Y x.cells=x.cells)/\∀(Y:Nat->Nat)(xs:List mm),JX Y (mp mm.cells xs)=mp mm.cells xs:=⟨fun Y x=>tJ Y _ (mm.nb 0 x),fun Y xs=>xG Y _ (p7 (mm.nb 0) xs)⟩
def mm.vw(H:List lw)(x:mm):vwL H x.cells=some (x.cells,[]):=L1 H _ (mm.nb 0 x)
attribute [go_sem] mm.vw
def mm.rpv(l:Nat)(ds:List AV)(x:mm):x.cells.map (rpV l ds)=x.cells:=Xj _ (mm.nb 0 x)
attribute [go_sem] mm.rpv
def mm.tk:(∀x:mm,fN 7 x.cells=x.cells)/\∀x:mm,fO 7 x.cells=[]:=⟨fun x=>by rw[mm.lB];rfl,fun x=>by rw[mm.lB];rfl⟩
attribute [go_sem] mm.tk
def mm.reads:
 (∀x:mm,cellsOf (.agg x.cells)=some x.cells)/\
 (∀x:mm,l3 true 7 x.cells=some (.agg x.cells))/\
 (∀x:mm,l3 false 1 x.cells=some (.mj false 23 (mp nB.cells x.env)))/\
 (∀x:mm,l3 false 1 (x.cells.drop 1)=some (.mj false 2 (mp l7.cells x.GV)))/\
 (∀x:mm,l3 false 1 (x.cells.drop 2)=some (.mj false 1 (mp mS x.Pt)))/\
 (∀x:mm,l3 false 1 (x.cells.drop 3)=some (.mj false 1 (mp mS x.instances)))/\
 (∀x:mm,l3 false 1 (x.cells.drop 4)=some (.mj false 4 (mp k7.cells x.GW)))/\
 (∀x:mm,l3 false 1 (x.cells.drop 5)=some (.mj false 1 (mp mS x.Xp)))/\
 (∀x:mm,l3 false 1 (x.cells.drop 6)=some (.mj false 1 (mp mS x.opens))):=
 ⟨fun x=>by simp only[cellsOf,mm.nT,kW],
  fun x=>uU (mm.length x),
  fun x=>by rw[mm.lB];rfl,
  fun x=>by rw[mm.lB];rfl,
  fun x=>by rw[mm.lB];rfl,
  fun x=>by rw[mm.lB];rfl,
  fun x=>by rw[mm.lB];rfl,
  fun x=>by rw[mm.lB];rfl,
  fun x=>by rw[mm.lB];rfl⟩
theorem mm.app(x:mm)(l:List AV):x.cells++l=(.mj false 23 (mp nB.cells x.env):AV)::(.mj false 2 (mp l7.cells x.GV):AV)::(.mj false 1 (mp mS x.Pt):AV)::(.mj false 1 (mp mS x.instances):AV)::(.mj false 4 (mp k7.cells x.GW):AV)::(.mj false 1 (mp mS x.Xp):AV)::(.mj false 1 (mp mS x.opens):AV)::l:=by rw[mm.lB];rfl
attribute [go_sem] mm.app mm.nbs mm.adH mm.reads mm.length mm.nT
structure lF where
 e:Int
 uV:Int
def lF.cells(x:lF):List AV:=[.int .i64 x.e,.int .i64 x.uV]
theorem lF.mr(x:lF):x.cells=[.int .i64 x.e,.int .i64 x.uV]:=rfl
theorem lF.lB(x:lF):x.cells=[.int .i64 x.e,.int .i64 x.uV]:=rfl
attribute [irreducible] lF.cells
theorem lF.length(x:lF):x.cells.length=2:=by rw[lF.lB];rfl
def lF.nT(x:lF):x.cells.all AV.nT=true:=by rw[lF.lB];rfl
theorem lF.nb(n:Nat)(x:lF):yg n x.cells:=by
 rw[lF.mr];exact⟨trivial,trivial,trivial⟩
def lF.of(H:List lw):List AV->Option lF
 |[c0,c1]=>(dI .i64 c0).bind fun x0=>(dI .i64 c1).bind fun x1=>some (.mk x0 x1)
 |_=>none
def lF.qa{c0 c1:AV}:lF.of H [c0,c1]=(dI .i64 c0).bind fun x0=>(dI .i64 c1).bind fun x1=>some (.mk x0 x1):=rfl
def lF.mF(H:List lw)(x:lF):lF.of H [.int .i64 x.e,.int .i64 x.uV]=some x:=by
 simp only[lF.qa,Bt,w8,GP,qF,DN,beq_self_eq_true,fF,kP,dL]
 try (cases x;rfl)
theorem lF.ow(H:List lw)(x:lF):lF.of H x.cells=some x:=by rw[lF.lB];exact lF.mF H x
def lF.qX{x:lF}(h:lF.of H cs=some x):nI H n cs x.cells:=by
 unfold lF.of at h;split at h
 ·simp only[fC,fD]at h;obtain⟨x0,h0,x1,h1,rfl⟩:=h;rw[lF.mr];exact(nI.cons (xT h0) (nI.cons (xT h1) nI.nil))
 ·cases h
def lF.lU:VZ lF:=⟨lF.cells,lF.of,fun _ _ _ _ h=>lF.qX h,lF.nb⟩
def lF.row:Row lF:=⟨lF.cells,lF.of [],2,fun _ _ h=>(lF.qX (n:=0) h).qk,lF.nb⟩
def lF.xp:lF.row.enc=lF.cells/\lF.row.oP=lF.of []/\lF.row.sz=2/\lF.lU.enc=lF.cells/\lF.lU.oP=lF.of:=⟨rfl,rfl,rfl,rfl,rfl⟩
attribute [go_sem] lF.qa lF.ow lF.xp
def lF.WN:(∀(y0:Int)(y1:Int),(lF.mk y0 y1).e=y0)/\(∀(y0:Int)(y1:Int),(lF.mk y0 y1).uV=y1):=⟨fun _ _=>rfl,fun _ _=>rfl⟩
attribute [go_sem] lF.WN
def lF.adH:(∀(Y:Nat->Nat)(x:lF),vC Y x.cells=x.cells)/\∀(Y:Nat->Nat)(xs:List lF),JX Y (mp lF.cells xs)=mp lF.cells xs:=⟨fun Y x=>tJ Y _ (lF.nb 0 x),fun Y xs=>xG Y _ (p7 (lF.nb 0) xs)⟩
def lF.vw(H:List lw)(x:lF):vwL H x.cells=some (x.cells,[]):=L1 H _ (lF.nb 0 x)
attribute [go_sem] lF.vw
def lF.reads:
 (∀x:lF,cellsOf (.agg x.cells)=some x.cells)/\
 (∀x:lF,l3 true 2 x.cells=some (.agg x.cells))/\
 (∀x:lF,l3 false 1 x.cells=some (.int .i64 x.e))/\
 (∀x:lF,l3 false 1 (x.cells.drop 1)=some (.int .i64 x.uV)):=
 ⟨fun x=>by simp only[cellsOf,lF.nT,kW],
  fun x=>uU (lF.length x),
  fun x=>by rw[lF.lB];rfl,
  fun x=>by rw[lF.lB];rfl⟩
attribute [go_sem] lF.adH lF.reads lF.length lF.nT
structure lA where
 st:mm
 asu:List lH
 mK:List lH
 ctx:List lH
 amx:List lH
def lA.cells(x:lA):List AV:=x.st.cells++[.mj false 1 (mp mS x.asu),.mj false 1 (mp mS x.mK),.mj false 1 (mp mS x.ctx),.mj false 1 (mp mS x.amx)]
theorem lA.mr(x:lA):x.cells=x.st.cells++[.mj false 1 (mp mS x.asu),.mj false 1 (mp mS x.mK),.mj false 1 (mp mS x.ctx),.mj false 1 (mp mS x.amx)]:=rfl
theorem lA.lB(x:lA):x.cells=[.mj false 23 (mp nB.cells x.st.env),.mj false 2 (mp l7.cells x.st.GV),.mj false 1 (mp mS x.st.Pt),.mj false 1 (mp mS x.st.instances),.mj false 4 (mp k7.cells x.st.GW),.mj false 1 (mp mS x.st.Xp),.mj false 1 (mp mS x.st.opens),.mj false 1 (mp mS x.asu),.mj false 1 (mp mS x.mK),.mj false 1 (mp mS x.ctx),.mj false 1 (mp mS x.amx)]:=by
 simp only[lA.cells,mm.lB,fH,fJ,fK]
attribute [irreducible] lA.cells
theorem lA.length(x:lA):x.cells.length=11:=by rw[lA.lB];rfl
def lA.nT(x:lA):x.cells.all AV.nT=true:=by rw[lA.lB];rfl
theorem lA.nb(n:Nat)(x:lA):yg n x.cells:=by
 rw[lA.mr];exact(ub (mm.nb n x.st) ⟨p7 (GS n) _,p7 (GS n) _,p7 (GS n) _,p7 (GS n) _,trivial⟩)
def lA.of(H:List lw):List AV->Option lA
 |[c0,c1,c2,c3,c4,c5,c6,c7,c8,c9,c10]=>(mm.of H [c0,c1,c2,c3,c4,c5,c6]).bind fun x0=>(dL mJ H c7).bind fun x1=>(dL mJ H c8).bind fun x2=>(dL mJ H c9).bind fun x3=>(dL mJ H c10).bind fun x4=>some (.mk x0 x1 x2 x3 x4)
 |_=>none
def lA.qa {c0 c1 c2 c3 c4 c5 c6:AV}:lA.of H [c0,c1,c2,c3,c4,c5,c6,c7,c8,c9,c10]=(mm.of H [c0,c1,c2,c3,c4,c5,c6]).bind fun x0=>(dL mJ H c7).bind fun x1=>(dL mJ H c8).bind fun x2=>(dL mJ H c9).bind fun x3=>(dL mJ H c10).bind fun x4=>some (.mk x0 x1 x2 x3 x4):=rfl
def lA.mF(H:List lw)(x:lA):lA.of H [.mj false 23 (mp nB.cells x.st.env),.mj false 2 (mp l7.cells x.st.GV),.mj false 1 (mp mS x.st.Pt),.mj false 1 (mp mS x.st.instances),.mj false 4 (mp k7.cells x.st.GW),.mj false 1 (mp mS x.st.Xp),.mj false 1 (mp mS x.st.opens),.mj false 1 (mp mS x.asu),.mj false 1 (mp mS x.mK),.mj false 1 (mp mS x.ctx),.mj false 1 (mp mS x.amx)]=some x:=by
 simp only[lA.qa,Bt,w8,GP,qF,DN,beq_self_eq_true,fF,kP,dL,Dz,adv,mm.mF]
 try (cases x;rfl)
theorem lA.ow(H:List lw)(x:lA):lA.of H x.cells=some x:=by rw[lA.lB];exact lA.mF H x
def lA.qX{x:lA}(h:lA.of H cs=some x):nI H n cs x.cells:=by
 unfold lA.of at h;split at h
 ·simp only[fC,fD]at h;obtain⟨x0,h0,x1,h1,x2,h2,x3,h3,x4,h4,rfl⟩:=h;rw[lA.mr];exact(nI.append (mm.qX h0) (nI.cons (Cj h1) (nI.cons (Cj h2) (nI.cons (Cj h3) (nI.cons (Cj h4) nI.nil)))))
 ·cases h
def lA.lU:VZ lA:=⟨lA.cells,lA.of,fun _ _ _ _ h=>lA.qX h,lA.nb⟩
def lA.row:Row lA:=⟨lA.cells,lA.of [],11,fun _ _ h=>(lA.qX (n:=0) h).qk,lA.nb⟩
def lA.xp:lA.row.enc=lA.cells/\lA.row.oP=lA.of []/\lA.row.sz=11/\lA.lU.enc=lA.cells/\lA.lU.oP=lA.of:=⟨rfl,rfl,rfl,rfl,rfl⟩
attribute [go_sem] lA.qa lA.ow lA.xp
def lA.WN:(∀(y0:mm)(y1:List lH)(y2:List lH)(y3:List lH)(y4:List lH),(lA.mk y0 y1 y2 y3 y4).st=y0)/\(∀(y0:mm)(y1:List lH)(y2:List lH)(y3:List lH)(y4:List lH),(lA.mk y0 y1 y2 y3 y4).asu=y1)/\(∀(y0:mm)(y1:List lH)(y2:List lH)(y3:List lH)(y4:List lH),(lA.mk y0 y1 y2 y3 y4).mK=y2)/\(∀(y0:mm)(y1:List lH)(y2:List lH)(y3:List lH)(y4:List lH),(lA.mk y0 y1 y2 y3 y4).ctx=y3)/\(∀(y0:mm)(y1:List lH)(y2:List lH)(y3:List lH)(y4:List lH),(lA.mk y0 y1 y2 y3 y4).amx=y4):=⟨fun _ _ _ _ _=>rfl,fun _ _ _ _ _=>rfl,fun _ _ _ _ _=>rfl,fun _ _ _ _ _=>rfl,fun _ _ _ _ _=>rfl⟩
attribute [go_sem] lA.WN
def lA.nbs:(∀(n:Nat)(x:lA),Go.Abs.yg n x.cells=True)/\∀(n:Nat)(xs:List lA),Go.Abs.Pe n (mp lA.cells xs)=True:=⟨fun n x=>eq_true (lA.nb n x),fun n xs=>eq_true (p7 (lA.nb n) xs)⟩
def lA.reads:
 (∀x:lA,cellsOf (.agg x.cells)=some x.cells)/\
 (∀x:lA,l3 true 11 x.cells=some (.agg x.cells))/\
 (∀x:lA,l3 false 1 x.cells=some (.mj false 23 (mp nB.cells x.st.env)))/\
 (∀x:lA,l3 false 1 (x.cells.drop 1)=some (.mj false 2 (mp l7.cells x.st.GV)))/\
 (∀x:lA,l3 false 1 (x.cells.drop 2)=some (.mj false 1 (mp mS x.st.Pt)))/\
 (∀x:lA,l3 false 1 (x.cells.drop 3)=some (.mj false 1 (mp mS x.st.instances)))/\
 (∀x:lA,l3 false 1 (x.cells.drop 4)=some (.mj false 4 (mp k7.cells x.st.GW)))/\
 (∀x:lA,l3 false 1 (x.cells.drop 5)=some (.mj false 1 (mp mS x.st.Xp)))/\
 (∀x:lA,l3 false 1 (x.cells.drop 6)=some (.mj false 1 (mp mS x.st.opens)))/\
 (∀x:lA,l3 false 1 (x.cells.drop 7)=some (.mj false 1 (mp mS x.asu)))/\
 (∀x:lA,l3 false 1 (x.cells.drop 8)=some (.mj false 1 (mp mS x.mK)))/\
 (∀x:lA,l3 false 1 (x.cells.drop 9)=some (.mj false 1 (mp mS x.ctx)))/\
 (∀x:lA,l3 false 1 (x.cells.drop 10)=some (.mj false 1 (mp mS x.amx)))/\
 (∀x:lA,l3 true 7 x.cells=some (.agg x.st.cells)):=
 ⟨fun x=>by simp only[cellsOf,lA.nT,kW],
  fun x=>uU (lA.length x),
  fun x=>by rw[lA.lB];rfl,
  fun x=>by rw[lA.lB];rfl,
  fun x=>by rw[lA.lB];rfl,
  fun x=>by rw[lA.lB];rfl,
  fun x=>by rw[lA.lB];rfl,
  fun x=>by rw[lA.lB];rfl,
  fun x=>by rw[lA.lB];rfl,
  fun x=>by rw[lA.lB];rfl,
  fun x=>by rw[lA.lB];rfl,
  fun x=>by rw[lA.lB];rfl,
  fun x=>by rw[lA.lB];rfl,
  fun x=>by rw[lA.lB];simp only[mm.lB,fG,fI];rfl⟩
attribute [go_sem] lA.nbs lA.reads lA.length lA.nT
structure mG where
 kind:Int
 text:lH
 uV:Int
def mG.cells(x:mG):List AV:=[.int .i64 x.kind,.str (sb x.text),.int .i64 x.uV]
theorem mG.mr(x:mG):x.cells=[.int .i64 x.kind,.str (sb x.text),.int .i64 x.uV]:=rfl
theorem mG.lB(x:mG):x.cells=[.int .i64 x.kind,.str (sb x.text),.int .i64 x.uV]:=rfl
attribute [irreducible] mG.cells
theorem mG.length(x:mG):x.cells.length=3:=by rw[mG.lB];rfl
def mG.nT(x:mG):x.cells.all AV.nT=true:=by rw[mG.lB];rfl
theorem mG.nb(n:Nat)(x:mG):yg n x.cells:=by
 rw[mG.mr];exact⟨trivial,trivial,trivial,trivial⟩
def mG.of(H:List lw):List AV->Option mG
 |[c0,c1,c2]=>(dI .i64 c0).bind fun x0=>(dS c1).bind fun x1=>(dI .i64 c2).bind fun x2=>some (.mk x0 x1 x2)
 |_=>none
def mG.qa{c0 c1 c2:AV}:mG.of H [c0,c1,c2]=(dI .i64 c0).bind fun x0=>(dS c1).bind fun x1=>(dI .i64 c2).bind fun x2=>some (.mk x0 x1 x2):=rfl
def mG.mF(H:List lw)(x:mG):mG.of H [.int .i64 x.kind,.str (sb x.text),.int .i64 x.uV]=some x:=by
 simp only[mG.qa,Bt,w8,GP,qF,DN,beq_self_eq_true,fF,kP,dL]
 try (cases x;rfl)
theorem mG.ow(H:List lw)(x:mG):mG.of H x.cells=some x:=by rw[mG.lB];exact mG.mF H x
def mG.qX{x:mG}(h:mG.of H cs=some x):nI H n cs x.cells:=by
 unfold mG.of at h;split at h
 ·simp only[fC,fD]at h;obtain⟨x0,h0,x1,h1,x2,h2,rfl⟩:=h;rw[mG.mr];exact(nI.cons (xT h0) (nI.cons (S6 h1) (nI.cons (xT h2) nI.nil)))
 ·cases h
def mG.lU:VZ mG:=⟨mG.cells,mG.of,fun _ _ _ _ h=>mG.qX h,mG.nb⟩
def mG.row:Row mG:=⟨mG.cells,mG.of [],3,fun _ _ h=>(mG.qX (n:=0) h).qk,mG.nb⟩
def mG.nO(xs:List mG):tU (mG.of []) (mp mG.cells xs)=some xs:=Ci (mG.ow []) xs
def mG.xp:mG.row.enc=mG.cells/\mG.row.oP=mG.of []/\mG.row.sz=3/\mG.lU.enc=mG.cells/\mG.lU.oP=mG.of:=⟨rfl,rfl,rfl,rfl,rfl⟩
attribute [go_sem] mG.qa mG.ow mG.nO mG.xp
def mG.WN:(∀(y0:Int)(y1:lH)(y2:Int),(mG.mk y0 y1 y2).kind=y0)/\(∀(y0:Int)(y1:lH)(y2:Int),(mG.mk y0 y1 y2).text=y1)/\(∀(y0:Int)(y1:lH)(y2:Int),(mG.mk y0 y1 y2).uV=y2):=⟨fun _ _ _=>rfl,fun _ _ _=>rfl,fun _ _ _=>rfl⟩
attribute [go_sem] mG.WN
def mG.nbs:(∀(n:Nat)(x:mG),Go.Abs.yg n x.cells=True)/\∀(n:Nat)(xs:List mG),Go.Abs.Pe n (mp mG.cells xs)=True:=⟨fun n x=>eq_true (mG.nb n x),fun n xs=>eq_true (p7 (mG.nb n) xs)⟩
def mG.vw(H:List lw)(x:mG):vwL H x.cells=some (x.cells,[]):=L1 H _ (mG.nb 0 x)
attribute [go_sem] mG.vw
theorem mG.frz(low:Nat)(H:List lw)(x:mG):api low H x.cells=x.cells:=R0 low H _ (mG.nb 0 x)
def mG.reads:
 (∀x:mG,cellsOf (.agg x.cells)=some x.cells)/\
 (∀x:mG,l3 true 3 x.cells=some (.agg x.cells))/\
 (∀x:mG,l3 false 1 x.cells=some (.int .i64 x.kind))/\
 (∀x:mG,l3 false 1 (x.cells.drop 1)=some (.str (sb x.text)))/\
 (∀x:mG,l3 false 1 (x.cells.drop 2)=some (.int .i64 x.uV)):=
 ⟨fun x=>by simp only[cellsOf,mG.nT,kW],
  fun x=>uU (mG.length x),
  fun x=>by rw[mG.lB];rfl,
  fun x=>by rw[mG.lB];rfl,
  fun x=>by rw[mG.lB];rfl⟩
attribute [go_sem] mG.nbs mG.frz mG.reads mG.length mG.nT
structure lI where
 K4:List mG
 next:Int
 base:Int
def lI.cells(x:lI):List AV:=[.mj false 3 (mp mG.cells x.K4),.int .i64 x.next,.int .i64 x.base]
theorem lI.mr(x:lI):x.cells=[.mj false 3 (mp mG.cells x.K4),.int .i64 x.next,.int .i64 x.base]:=rfl
theorem lI.lB(x:lI):x.cells=[.mj false 3 (mp mG.cells x.K4),.int .i64 x.next,.int .i64 x.base]:=rfl
attribute [irreducible] lI.cells
theorem lI.length(x:lI):x.cells.length=3:=by rw[lI.lB];rfl
def lI.nT(x:lI):x.cells.all AV.nT=true:=by rw[lI.lB];rfl
theorem lI.nb(n:Nat)(x:lI):yg n x.cells:=by
 rw[lI.mr];exact⟨p7 (mG.nb n) _,trivial,trivial,trivial⟩
def lI.of(H:List lw):List AV->Option lI
 |[c0,c1,c2]=>(dL mG.row H c0).bind fun x0=>(dI .i64 c1).bind fun x1=>(dI .i64 c2).bind fun x2=>some (.mk x0 x1 x2)
 |_=>none
def lI.qa{c0 c1 c2:AV}:lI.of H [c0,c1,c2]=(dL mG.row H c0).bind fun x0=>(dI .i64 c1).bind fun x1=>(dI .i64 c2).bind fun x2=>some (.mk x0 x1 x2):=rfl
def lI.mF(H:List lw)(x:lI):lI.of H [.mj false 3 (mp mG.cells x.K4),.int .i64 x.next,.int .i64 x.base]=some x:=by
 simp only[lI.qa,Bt,w8,GP,qF,DN,beq_self_eq_true,fF,kP,dL,mG.nO,mG.row]
 try (cases x;rfl)
def lI.qX{x:lI}(h:lI.of H cs=some x):nI H n cs x.cells:=by
 unfold lI.of at h;split at h
 ·simp only[fC,fD]at h;obtain⟨x0,h0,x1,h1,x2,h2,rfl⟩:=h;rw[lI.mr];exact(nI.cons (Cj h0) (nI.cons (xT h1) (nI.cons (xT h2) nI.nil)))
 ·cases h
def lI.lU:VZ lI:=⟨lI.cells,lI.of,fun _ _ _ _ h=>lI.qX h,lI.nb⟩
def lI.row:Row lI:=⟨lI.cells,lI.of [],3,fun _ _ h=>(lI.qX (n:=0) h).qk,lI.nb⟩
def lI.xp:lI.row.enc=lI.cells/\lI.row.oP=lI.of []/\lI.row.sz=3/\lI.lU.enc=lI.cells/\lI.lU.oP=lI.of:=⟨rfl,rfl,rfl,rfl,rfl⟩
def lI.eta(x:lI):lI.mk x.K4 x.next x.base=x:=by cases x;rfl
attribute [go_sem] lI.qa lI.xp lI.eta
def lI.WN:(∀(y0:List mG)(y1:Int)(y2:Int),(lI.mk y0 y1 y2).K4=y0)/\(∀(y0:List mG)(y1:Int)(y2:Int),(lI.mk y0 y1 y2).next=y1)/\(∀(y0:List mG)(y1:Int)(y2:Int),(lI.mk y0 y1 y2).base=y2):=⟨fun _ _ _=>rfl,fun _ _ _=>rfl,fun _ _ _=>rfl⟩
attribute [go_sem] lI.WN
def lI.adH:(∀(Y:Nat->Nat)(x:lI),vC Y x.cells=x.cells)/\∀(Y:Nat->Nat)(xs:List lI),JX Y (mp lI.cells xs)=mp lI.cells xs:=⟨fun Y x=>tJ Y _ (lI.nb 0 x),fun Y xs=>xG Y _ (p7 (lI.nb 0) xs)⟩
def lI.reads:
 (∀x:lI,cellsOf (.agg x.cells)=some x.cells)/\
 (∀x:lI,l3 true 3 x.cells=some (.agg x.cells))/\
 (∀x:lI,l3 false 1 x.cells=some (.mj false 3 (mp mG.cells x.K4)))/\
 (∀x:lI,l3 false 1 (x.cells.drop 1)=some (.int .i64 x.next))/\
 (∀x:lI,l3 false 1 (x.cells.drop 2)=some (.int .i64 x.base)):=
 ⟨fun x=>by simp only[cellsOf,lI.nT,kW],
  fun x=>uU (lI.length x),
  fun x=>by rw[lI.lB];rfl,
  fun x=>by rw[lI.lB];rfl,
  fun x=>by rw[lI.lB];rfl⟩
theorem lI.app(x:lI)(l:List AV):x.cells++l=(.mj false 3 (mp mG.cells x.K4):AV)::(.int .i64 x.next:AV)::(.int .i64 x.base:AV)::l:=by rw[lI.lB];rfl
attribute [go_sem] lI.app lI.adH lI.reads lI.length lI.nT
structure kZ where
 vP:lI
 Od:List k7
 C5:List lH
 depth:Int
def kZ.cells(x:kZ):List AV:=x.vP.cells++[.mj false 4 (mp k7.cells x.Od),.mj false 1 (mp mS x.C5),.int .i64 x.depth]
theorem kZ.mr(x:kZ):x.cells=x.vP.cells++[.mj false 4 (mp k7.cells x.Od),.mj false 1 (mp mS x.C5),.int .i64 x.depth]:=rfl
theorem kZ.lB(x:kZ):x.cells=[.mj false 3 (mp mG.cells x.vP.K4),.int .i64 x.vP.next,.int .i64 x.vP.base,.mj false 4 (mp k7.cells x.Od),.mj false 1 (mp mS x.C5),.int .i64 x.depth]:=by
 simp only[kZ.cells,lI.lB,fH,fJ,fK]
attribute [irreducible] kZ.cells
theorem kZ.length(x:kZ):x.cells.length=6:=by rw[kZ.lB];rfl
def kZ.nT(x:kZ):x.cells.all AV.nT=true:=by rw[kZ.lB];rfl
theorem kZ.nb(n:Nat)(x:kZ):yg n x.cells:=by
 rw[kZ.mr];exact(ub (lI.nb n x.vP) ⟨p7 (k7.nb n) _,p7 (GS n) _,trivial,trivial⟩)
def kZ.of(H:List lw):List AV->Option kZ
 |[c0,c1,c2,c3,c4,c5]=>(lI.of H [c0,c1,c2]).bind fun x0=>(dL k7.row H c3).bind fun x1=>(dL mJ H c4).bind fun x2=>(dI .i64 c5).bind fun x3=>some (.mk x0 x1 x2 x3)
 |_=>none
def kZ.qa{c0 c1 c2 c3 c4 c5:AV}:kZ.of H [c0,c1,c2,c3,c4,c5]=(lI.of H [c0,c1,c2]).bind fun x0=>(dL k7.row H c3).bind fun x1=>(dL mJ H c4).bind fun x2=>(dI .i64 c5).bind fun x3=>some (.mk x0 x1 x2 x3):=rfl
def kZ.mF(H:List lw)(x:kZ):kZ.of H [.mj false 3 (mp mG.cells x.vP.K4),.int .i64 x.vP.next,.int .i64 x.vP.base,.mj false 4 (mp k7.cells x.Od),.mj false 1 (mp mS x.C5),.int .i64 x.depth]=some x:=by
 simp only[kZ.qa,Bt,w8,GP,qF,DN,beq_self_eq_true,fF,kP,dL,k7.nO,k7.row,Dz,adv,lI.mF]
 try (cases x;rfl)
theorem kZ.ow(H:List lw)(x:kZ):kZ.of H x.cells=some x:=by rw[kZ.lB];exact kZ.mF H x
def kZ.qX{x:kZ}(h:kZ.of H cs=some x):nI H n cs x.cells:=by
 unfold kZ.of at h;split at h
 ·simp only[fC,fD]at h;obtain⟨x0,h0,x1,h1,x2,h2,x3,h3,rfl⟩:=h;rw[kZ.mr];exact(nI.append (lI.qX h0) (nI.cons (Cj h1) (nI.cons (Cj h2) (nI.cons (xT h3) nI.nil))))
 ·cases h
def kZ.lU:VZ kZ:=⟨kZ.cells,kZ.of,fun _ _ _ _ h=>kZ.qX h,kZ.nb⟩
def kZ.row:Row kZ:=⟨kZ.cells,kZ.of [],6,fun _ _ h=>(kZ.qX (n:=0) h).qk,kZ.nb⟩
def kZ.xp:kZ.row.enc=kZ.cells/\kZ.row.oP=kZ.of []/\kZ.row.sz=6/\kZ.lU.enc=kZ.cells/\kZ.lU.oP=kZ.of:=⟨rfl,rfl,rfl,rfl,rfl⟩
attribute [go_sem] kZ.qa kZ.ow kZ.xp
def kZ.WN:(∀(y0:lI)(y1:List k7)(y2:List lH)(y3:Int),(kZ.mk y0 y1 y2 y3).vP=y0)/\(∀(y0:lI)(y1:List k7)(y2:List lH)(y3:Int),(kZ.mk y0 y1 y2 y3).Od=y1)/\(∀(y0:lI)(y1:List k7)(y2:List lH)(y3:Int),(kZ.mk y0 y1 y2 y3).C5=y2)/\(∀(y0:lI)(y1:List k7)(y2:List lH)(y3:Int),(kZ.mk y0 y1 y2 y3).depth=y3):=⟨fun _ _ _ _=>rfl,fun _ _ _ _=>rfl,fun _ _ _ _=>rfl,fun _ _ _ _=>rfl⟩
attribute [go_sem] kZ.WN
def kZ.nbs:(∀(n:Nat)(x:kZ),Go.Abs.yg n x.cells=True)/\∀(n:Nat)(xs:List kZ),Go.Abs.Pe n (mp kZ.cells xs)=True:=⟨fun n x=>eq_true (kZ.nb n x),fun n xs=>eq_true (p7 (kZ.nb n) xs)⟩
def kZ.adH:(∀(Y:Nat->Nat)(x:kZ),vC Y x.cells=x.cells)/\∀(Y:Nat->Nat)(xs:List kZ),JX Y (mp kZ.cells xs)=mp kZ.cells xs:=⟨fun Y x=>tJ Y _ (kZ.nb 0 x),fun Y xs=>xG Y _ (p7 (kZ.nb 0) xs)⟩
def kZ.tk:(∀x:kZ,fN 6 x.cells=x.cells)/\∀x:kZ,fO 6 x.cells=[]:=⟨fun x=>by rw[kZ.lB];rfl,fun x=>by rw[kZ.lB];rfl⟩
attribute [go_sem] kZ.tk
def kZ.reads:
 (∀x:kZ,cellsOf (.agg x.cells)=some x.cells)/\
 (∀x:kZ,l3 true 6 x.cells=some (.agg x.cells))/\
 (∀x:kZ,l3 false 1 x.cells=some (.mj false 3 (mp mG.cells x.vP.K4)))/\
 (∀x:kZ,l3 false 1 (x.cells.drop 1)=some (.int .i64 x.vP.next))/\
 (∀x:kZ,l3 false 1 (x.cells.drop 2)=some (.int .i64 x.vP.base))/\
 (∀x:kZ,l3 false 1 (x.cells.drop 3)=some (.mj false 4 (mp k7.cells x.Od)))/\
 (∀x:kZ,l3 false 1 (x.cells.drop 4)=some (.mj false 1 (mp mS x.C5)))/\
 (∀x:kZ,l3 false 1 (x.cells.drop 5)=some (.int .i64 x.depth))/\
 (∀x:kZ,l3 true 3 x.cells=some (.agg x.vP.cells)):=
 ⟨fun x=>by simp only[cellsOf,kZ.nT,kW],
  fun x=>uU (kZ.length x),
  fun x=>by rw[kZ.lB];rfl,
  fun x=>by rw[kZ.lB];rfl,
  fun x=>by rw[kZ.lB];rfl,
  fun x=>by rw[kZ.lB];rfl,
  fun x=>by rw[kZ.lB];rfl,
  fun x=>by rw[kZ.lB];rfl,
  fun x=>by rw[kZ.lB];simp only[lI.lB,fG,fI];rfl⟩
def kZ.atX(x:kZ)(o:Nat)(xs:List AV):z1 x.cells o xs=z1 [.mj false 3 (mp mG.cells x.vP.K4),.int .i64 x.vP.next,.int .i64 x.vP.base,.mj false 4 (mp k7.cells x.Od),.mj false 1 (mp mS x.C5),.int .i64 x.depth] o xs:=by rw[kZ.lB]
attribute [go_sem] kZ.nbs kZ.adH kZ.reads kZ.length kZ.nT
attribute [go_sem low] kZ.atX
structure lD where
 name:lH
 t:Syntax
def lD.cells(x:lD):List AV:=[.str (sb x.name)]++x.t.cells
theorem lD.mr(x:lD):x.cells=[.str (sb x.name)]++x.t.cells:=rfl
theorem lD.lB(x:lD):x.cells=[.str (sb x.name),.int .i64 x.t.kind,.str (sb x.t.text),.int .i64 x.t.num,.mj false 1 (mp mS x.t.mZ),.mj false 2 (mp ld.cells x.t.mK),.mj false 8 (mp Syntax.cells x.t.mR),.int .i64 x.t.rJ,.int .i64 x.t.to]:=by
 simp only[lD.cells,Syntax.lB,fH,fJ,fK]
attribute [irreducible] lD.cells
theorem lD.length(x:lD):x.cells.length=9:=by rw[lD.lB];rfl
def lD.nT(x:lD):x.cells.all AV.nT=true:=by rw[lD.lB];rfl
theorem lD.nb(n:Nat)(x:lD):yg n x.cells:=by
 rw[lD.mr];exact(ub ⟨trivial,trivial⟩ (Syntax.nb n x.t))
def lD.of(H:List lw):List AV->Option lD
 |[c0,c1,c2,c3,c4,c5,c6,c7,c8]=>(dS c0).bind fun x0=>(Syntax.of H [c1,c2,c3,c4,c5,c6,c7,c8]).bind fun x1=>some (.mk x0 x1)
 |_=>none
def lD.qa {c0 c1 c2 c3 c4 c5 c6:AV}:lD.of H [c0,c1,c2,c3,c4,c5,c6,c7,c8]=(dS c0).bind fun x0=>(Syntax.of H [c1,c2,c3,c4,c5,c6,c7,c8]).bind fun x1=>some (.mk x0 x1):=rfl
def lD.mF(H:List lw)(x:lD):lD.of H [.str (sb x.name),.int .i64 x.t.kind,.str (sb x.t.text),.int .i64 x.t.num,.mj false 1 (mp mS x.t.mZ),.mj false 2 (mp ld.cells x.t.mK),.mj false 8 (mp Syntax.cells x.t.mR),.int .i64 x.t.rJ,.int .i64 x.t.to]=some x:=by
 simp only[lD.qa,Bt,w8,GP,qF,DN,beq_self_eq_true,fF,kP,dL,Syntax.mF]
 try (cases x;rfl)
theorem lD.ow(H:List lw)(x:lD):lD.of H x.cells=some x:=by rw[lD.lB];exact lD.mF H x
def lD.qX{x:lD}(h:lD.of H cs=some x):nI H n cs x.cells:=by
 unfold lD.of at h;split at h
 ·simp only[fC,fD]at h;obtain⟨x0,h0,x1,h1,rfl⟩:=h;rw[lD.mr];exact(nI.append (nI.cons (S6 h0) nI.nil) (Syntax.qX h1))
 ·cases h
def lD.lU:VZ lD:=⟨lD.cells,lD.of,fun _ _ _ _ h=>lD.qX h,lD.nb⟩
def lD.row:Row lD:=⟨lD.cells,lD.of [],9,fun _ _ h=>(lD.qX (n:=0) h).qk,lD.nb⟩
def lD.nO(xs:List lD):tU (lD.of []) (mp lD.cells xs)=some xs:=Ci (lD.ow []) xs
def lD.xp:lD.row.enc=lD.cells/\lD.row.oP=lD.of []/\lD.row.sz=9/\lD.lU.enc=lD.cells/\lD.lU.oP=lD.of:=⟨rfl,rfl,rfl,rfl,rfl⟩
attribute [go_sem] lD.qa lD.ow lD.nO lD.xp
def lD.WN:(∀(y0:lH)(y1:Syntax),(lD.mk y0 y1).name=y0)/\(∀(y0:lH)(y1:Syntax),(lD.mk y0 y1).t=y1):=⟨fun _ _=>rfl,fun _ _=>rfl⟩
attribute [go_sem] lD.WN
def lD.nbs:(∀(n:Nat)(x:lD),Go.Abs.yg n x.cells=True)/\∀(n:Nat)(xs:List lD),Go.Abs.Pe n (mp lD.cells xs)=True:=⟨fun n x=>eq_true (lD.nb n x),fun n xs=>eq_true (p7 (lD.nb n) xs)⟩
def lD.adH:(∀(Y:Nat->Nat)(x:lD),vC Y x.cells=x.cells)/\∀(Y:Nat->Nat)(xs:List lD),JX Y (mp lD.cells xs)=mp lD.cells xs:=⟨fun Y x=>tJ Y _ (lD.nb 0 x),fun Y xs=>xG Y _ (p7 (lD.nb 0) xs)⟩
def lD.reads:
 (∀x:lD,cellsOf (.agg x.cells)=some x.cells)/\
 (∀x:lD,l3 true 9 x.cells=some (.agg x.cells))/\
 (∀x:lD,l3 false 1 x.cells=some (.str (sb x.name)))/\
 (∀x:lD,l3 false 1 (x.cells.drop 1)=some (.int .i64 x.t.kind))/\
 (∀x:lD,l3 false 1 (x.cells.drop 2)=some (.str (sb x.t.text)))/\
 (∀x:lD,l3 false 1 (x.cells.drop 3)=some (.int .i64 x.t.num))/\
 (∀x:lD,l3 false 1 (x.cells.drop 4)=some (.mj false 1 (mp mS x.t.mZ)))/\
 (∀x:lD,l3 false 1 (x.cells.drop 5)=some (.mj false 2 (mp ld.cells x.t.mK)))/\
 (∀x:lD,l3 false 1 (x.cells.drop 6)=some (.mj false 8 (mp Syntax.cells x.t.mR)))/\
 (∀x:lD,l3 false 1 (x.cells.drop 7)=some (.int .i64 x.t.rJ))/\
 (∀x:lD,l3 false 1 (x.cells.drop 8)=some (.int .i64 x.t.to))/\
 (∀x:lD,l3 true 8 (x.cells.drop 1)=some (.agg x.t.cells)):=
 ⟨fun x=>by simp only[cellsOf,lD.nT,kW],
  fun x=>uU (lD.length x),
  fun x=>by rw[lD.lB];rfl,
  fun x=>by rw[lD.lB];rfl,
  fun x=>by rw[lD.lB];rfl,
  fun x=>by rw[lD.lB];rfl,
  fun x=>by rw[lD.lB];rfl,
  fun x=>by rw[lD.lB];rfl,
  fun x=>by rw[lD.lB];rfl,
  fun x=>by rw[lD.lB];rfl,
  fun x=>by rw[lD.lB];rfl,
  fun x=>by rw[lD.lB];simp only[Syntax.lB,fG,fI];rfl⟩
attribute [go_sem] lD.nbs lD.adH lD.reads lD.length lD.nT
structure lM where
 index:Bool
 name:Bool
 mK:Int
 mR:Int
 below:Int
def lM.cells(x:lM):List AV:=[.bool x.index,.bool x.name,.int .i64 x.mK,.int .i64 x.mR,.int .i64 x.below]
theorem lM.mr(x:lM):x.cells=[.bool x.index,.bool x.name,.int .i64 x.mK,.int .i64 x.mR,.int .i64 x.below]:=rfl
theorem lM.lB(x:lM):x.cells=[.bool x.index,.bool x.name,.int .i64 x.mK,.int .i64 x.mR,.int .i64 x.below]:=rfl
attribute [irreducible] lM.cells
theorem lM.length(x:lM):x.cells.length=5:=by rw[lM.lB];rfl
def lM.nT(x:lM):x.cells.all AV.nT=true:=by rw[lM.lB];rfl
theorem lM.nb(n:Nat)(x:lM):yg n x.cells:=by
 rw[lM.mr];exact⟨trivial,trivial,trivial,trivial,trivial,trivial⟩
def lM.of(H:List lw):List AV->Option lM
 |[c0,c1,c2,c3,c4]=>(dB c0).bind fun x0=>(dB c1).bind fun x1=>(dI .i64 c2).bind fun x2=>(dI .i64 c3).bind fun x3=>(dI .i64 c4).bind fun x4=>some (.mk x0 x1 x2 x3 x4)
 |_=>none
def lM.qa{c0 c1 c2 c3 c4:AV}:lM.of H [c0,c1,c2,c3,c4]=(dB c0).bind fun x0=>(dB c1).bind fun x1=>(dI .i64 c2).bind fun x2=>(dI .i64 c3).bind fun x3=>(dI .i64 c4).bind fun x4=>some (.mk x0 x1 x2 x3 x4):=rfl
def lM.mF(H:List lw)(x:lM):lM.of H [.bool x.index,.bool x.name,.int .i64 x.mK,.int .i64 x.mR,.int .i64 x.below]=some x:=by
 simp only[lM.qa,Bt,w8,GP,qF,DN,beq_self_eq_true,fF,kP,dL]
 try (cases x;rfl)
theorem lM.ow(H:List lw)(x:lM):lM.of H x.cells=some x:=by rw[lM.lB];exact lM.mF H x
def lM.qX{x:lM}(h:lM.of H cs=some x):nI H n cs x.cells:=by
 unfold lM.of at h;split at h
 ·simp only[fC,fD]at h;obtain⟨x0,h0,x1,h1,x2,h2,x3,h3,x4,h4,rfl⟩:=h;rw[lM.mr];exact(nI.cons (akS h0) (nI.cons (akS h1) (nI.cons (xT h2) (nI.cons (xT h3) (nI.cons (xT h4) nI.nil)))))
 ·cases h
def lM.lU:VZ lM:=⟨lM.cells,lM.of,fun _ _ _ _ h=>lM.qX h,lM.nb⟩
def lM.row:Row lM:=⟨lM.cells,lM.of [],5,fun _ _ h=>(lM.qX (n:=0) h).qk,lM.nb⟩
def lM.xp:lM.row.enc=lM.cells/\lM.row.oP=lM.of []/\lM.row.sz=5/\lM.lU.enc=lM.cells/\lM.lU.oP=lM.of:=⟨rfl,rfl,rfl,rfl,rfl⟩
attribute [go_sem] lM.qa lM.ow lM.xp
def lM.WN:(∀(y0:Bool)(y1:Bool)(y2:Int)(y3:Int)(y4:Int),(lM.mk y0 y1 y2 y3 y4).index=y0)/\(∀(y0:Bool)(y1:Bool)(y2:Int)(y3:Int)(y4:Int),(lM.mk y0 y1 y2 y3 y4).name=y1)/\(∀(y0:Bool)(y1:Bool)(y2:Int)(y3:Int)(y4:Int),(lM.mk y0 y1 y2 y3 y4).mK=y2)/\(∀(y0:Bool)(y1:Bool)(y2:Int)(y3:Int)(y4:Int),(lM.mk y0 y1 y2 y3 y4).mR=y3)/\(∀(y0:Bool)(y1:Bool)(y2:Int)(y3:Int)(y4:Int),(lM.mk y0 y1 y2 y3 y4).below=y4):=⟨fun _ _ _ _ _=>rfl,fun _ _ _ _ _=>rfl,fun _ _ _ _ _=>rfl,fun _ _ _ _ _=>rfl,fun _ _ _ _ _=>rfl⟩
attribute [go_sem] lM.WN
def lM.arr:(∀(m i:Nat)(v:Ey lM m),Xb 5 i (vO lM.cells m v)=((Zg m v)[i]?).bind fun y=>some (lM.cells y))/\(∀(H:List lw)(m:Nat)(v:Ey lM m),aae (lM.of H) 5 m (vO lM.cells m v)=some v)/\(∀(m:Nat)(v:Ey lM m),(vO lM.cells m v).length=m*5)/\(∀(Y:Nat->Nat)(m:Nat)(v:Ey lM m),vC Y (vO lM.cells m v)=vO lM.cells m v)/\(∀(N m:Nat)(v:Ey lM m),yg N (vO lM.cells m v)=True)/\(∀(l:Nat)(cs:List AV)(m:Nat)(v:Ey lM m),(vO lM.cells m v).map (rp1 l cs)=vO lM.cells m v)/\(∀(l:Nat)(cs:List AV)(m:Nat)(v:Ey lM m),(vO lM.cells m v).map (rpV l cs)=vO lM.cells m v)/\(∀(m:Nat)(v:Ey lM m),cellsOf (.agg (vO lM.cells m v))=some (vO lM.cells m v)):=⟨fun m i v=>(ajT lM.length (by decide) m i v).trans (by cases (Zg m v)[i]? <;>rfl),fun H m v=>apX lM.length (lM.ow H) m v,fun m v=>apW lM.length m v,fun Y m v=>tJ Y _ (asl lM.nb 0 m v),fun N m v=>eq_true (asl lM.nb N m v),fun l cs m v=>ady _ (asl lM.nb 0 m v),fun l cs m v=>Xj _ (asl lM.nb 0 m v),fun m v=>aD6 lM.nT m v⟩
attribute [go_sem high] lM.arr
def lM.reads:
 (∀x:lM,cellsOf (.agg x.cells)=some x.cells)/\
 (∀x:lM,l3 true 5 x.cells=some (.agg x.cells))/\
 (∀x:lM,l3 false 1 x.cells=some (.bool x.index))/\
 (∀x:lM,l3 false 1 (x.cells.drop 1)=some (.bool x.name))/\
 (∀x:lM,l3 false 1 (x.cells.drop 2)=some (.int .i64 x.mK))/\
 (∀x:lM,l3 false 1 (x.cells.drop 3)=some (.int .i64 x.mR))/\
 (∀x:lM,l3 false 1 (x.cells.drop 4)=some (.int .i64 x.below)):=
 ⟨fun x=>by simp only[cellsOf,lM.nT,kW],
  fun x=>uU (lM.length x),
  fun x=>by rw[lM.lB];rfl,
  fun x=>by rw[lM.lB];rfl,
  fun x=>by rw[lM.lB];rfl,
  fun x=>by rw[lM.lB];rfl,
  fun x=>by rw[lM.lB];rfl⟩
attribute [go_sem] lM.reads lM.length lM.nT
structure lC where
 mZ:Int
 mR:Int
 adI:Bool
 name:adF
def lC.cells(x:lC):List AV:=[.int .i64 x.mZ,.int .i64 x.mR,.bool x.adI,adG x.name]
theorem lC.mr(x:lC):x.cells=[.int .i64 x.mZ,.int .i64 x.mR,.bool x.adI,adG x.name]:=rfl
theorem lC.lB(x:lC):x.cells=[.int .i64 x.mZ,.int .i64 x.mR,.bool x.adI,adG x.name]:=rfl
attribute [irreducible] lC.cells
theorem lC.length(x:lC):x.cells.length=4:=by rw[lC.lB];rfl
def lC.nT(x:lC):x.cells.all AV.nT=true:=by rw[lC.lB];simp only[List.all_cons,ant];rfl
theorem lC.nb(n:Nat)(x:lC):yg n x.cells:=by
 rw[lC.mr];exact⟨trivial,trivial,trivial,atW n _,trivial⟩
def lC.of(H:List lw):List AV->Option lC
 |[c0,c1,c2,c3]=>(dI .i64 c0).bind fun x0=>(dI .i64 c1).bind fun x1=>(dB c2).bind fun x2=>(atV H c3).bind fun x3=>some (.mk x0 x1 x2 x3)
 |_=>none
def lC.qa{c0 c1 c2 c3:AV}:lC.of H [c0,c1,c2,c3]=(dI .i64 c0).bind fun x0=>(dI .i64 c1).bind fun x1=>(dB c2).bind fun x2=>(atV H c3).bind fun x3=>some (.mk x0 x1 x2 x3):=rfl
def lC.mF(H:List lw)(x:lC):lC.of H [.int .i64 x.mZ,.int .i64 x.mR,.bool x.adI,adG x.name]=some x:=by
 simp only[lC.qa,Bt,w8,GP,qF,DN,beq_self_eq_true,fF,kP,dL,awK]
 try (cases x;rfl)
theorem lC.ow(H:List lw)(x:lC):lC.of H x.cells=some x:=by rw[lC.lB];exact lC.mF H x
def lC.qX{x:lC}(h:lC.of H cs=some x):nI H n cs x.cells:=by
 unfold lC.of at h;split at h
 ·simp only[fC,fD]at h;obtain⟨x0,h0,x1,h1,x2,h2,x3,h3,rfl⟩:=h;rw[lC.mr];exact(nI.cons (xT h0) (nI.cons (xT h1) (nI.cons (akS h2) (nI.cons (aAy h3) nI.nil))))
 ·cases h
def lC.lU:VZ lC:=⟨lC.cells,lC.of,fun _ _ _ _ h=>lC.qX h,lC.nb⟩
def lC.row:Row lC:=⟨lC.cells,lC.of [],4,fun _ _ h=>(lC.qX (n:=0) h).qk,lC.nb⟩
def lC.xp:lC.row.enc=lC.cells/\lC.row.oP=lC.of []/\lC.row.sz=4/\lC.lU.enc=lC.cells/\lC.lU.oP=lC.of:=⟨rfl,rfl,rfl,rfl,rfl⟩
attribute [go_sem] lC.qa lC.ow lC.xp
def lC.WN:(∀(y0:Int)(y1:Int)(y2:Bool)(y3:adF),(lC.mk y0 y1 y2 y3).mZ=y0)/\(∀(y0:Int)(y1:Int)(y2:Bool)(y3:adF),(lC.mk y0 y1 y2 y3).mR=y1)/\(∀(y0:Int)(y1:Int)(y2:Bool)(y3:adF),(lC.mk y0 y1 y2 y3).adI=y2)/\(∀(y0:Int)(y1:Int)(y2:Bool)(y3:adF),(lC.mk y0 y1 y2 y3).name=y3):=⟨fun _ _ _ _=>rfl,fun _ _ _ _=>rfl,fun _ _ _ _=>rfl,fun _ _ _ _=>rfl⟩
attribute [go_sem] lC.WN
def lC.adH:(∀(Y:Nat->Nat)(x:lC),vC Y x.cells=x.cells)/\∀(Y:Nat->Nat)(xs:List lC),JX Y (mp lC.cells xs)=mp lC.cells xs:=⟨fun Y x=>tJ Y _ (lC.nb 0 x),fun Y xs=>xG Y _ (p7 (lC.nb 0) xs)⟩
def lC.tk:(∀x:lC,fN 4 x.cells=x.cells)/\∀x:lC,fO 4 x.cells=[]:=⟨fun x=>by rw[lC.lB];rfl,fun x=>by rw[lC.lB];rfl⟩
attribute [go_sem] lC.tk
def lC.reads:
 (∀x:lC,cellsOf (.agg x.cells)=some x.cells)/\
 (∀x:lC,l3 true 4 x.cells=some (.agg x.cells))/\
 (∀x:lC,l3 false 1 x.cells=some (.int .i64 x.mZ))/\
 (∀x:lC,l3 false 1 (x.cells.drop 1)=some (.int .i64 x.mR))/\
 (∀x:lC,l3 false 1 (x.cells.drop 2)=some (.bool x.adI))/\
 (∀x:lC,l3 false 1 (x.cells.drop 3)=some (adG x.name)):=
 ⟨fun x=>by simp only[cellsOf,lC.nT,kW],
  fun x=>uU (lC.length x),
  fun x=>by rw[lC.lB];rfl,
  fun x=>by rw[lC.lB];rfl,
  fun x=>by rw[lC.lB];rfl,
  fun x=>by rw[lC.lB];rfl⟩
attribute [go_sem] lC.adH lC.reads lC.length lC.nT
open Go.Proofs
def tf0:
 o9 fB 1=some (false,1)/\
 nY fB 1=none/\
 ou fB 1=some [.uS .nilFunc]/\
 rV fB 1=false/\
 nL fB 1=true/\
 pY fB 1=true/\
 o9 fB 3=some (false,1)/\
 nY fB 3=none/\
 ou fB 3=some [.int .i64 0]/\
 rV fB 3=false/\
 ao1 fB 3=some .i64/\
 nL fB 3=false/\
 pY fB 3=true/\
 o9 fB 4=some (false,1)/\
 nY fB 4=none/\
 ou fB 4=some [.bool false]/\
 rV fB 4=false/\
 nL fB 4=true/\
 pY fB 4=true/\
 o9 fB 5=some (false,1)/\
 nY fB 5=none/\
 ou fB 5=some [.int .u8 0]/\
 rV fB 5=false/\
 ao1 fB 5=some .u8/\
 nL fB 5=false/\
 pY fB 5=true/\
 o9 fB 9=some (false,1)/\
 nY fB 9=none/\
 ou fB 9=some [.str fE]/\
 rV fB 9=true/\
 ao1 fB 9=none/\
 nL fB 9=true/\
 pY fB 9=true/\
 o9 fB 20=some (false,1)/\
 nY fB 20=none/\
 ou fB 20=some [.uS .nilIface]/\
 rV fB 20=false/\
 nL fB 20=true/\
 pY fB 20=false/\
 o9 fB 21=some (false,1)/\
 nY fB 21=none/\
 ou fB 21=some [.int .i32 0]/\
 rV fB 21=false/\
 ao1 fB 21=some .i32/\
 nL fB 21=false/\
 pY fB 21=true/\
 o9 fB 22=some (false,1)/\
 nY fB 22=some (25,4,56)/\
 ou fB 22=some [.mj true 0 []]/\
 rV fB 22=false/\
 nL fB 22=true/\
 pY fB 22=true/\
 o9 fB 23=some (false,1)/\
 nY fB 23=some (9,1,16)/\
 ou fB 23=some [.mj true 0 []]/\
 rV fB 23=false/\
 nL fB 23=true/\
 pY fB 23=true/\
 o9 fB 25=some (true,4)/\
 ve fB 25=true/\
 rC fB 25 0=some (0,23)/\
 mi fB 25 0=some (0,1)/\
 rC fB 25 1=some (1,3)/\
 mi fB 25 1=some (1,1)/\
 rC fB 25 2=some (2,3)/\
 mi fB 25 2=some (2,1)/\
 rC fB 25 3=some (3,9)/\
 mi fB 25 3=some (3,1)/\
 nY fB 25=none/\
 ou fB 25=some [.mj true 0 [],.int .i64 0,.int .i64 0,.str fE]/\
 rV fB 25=false/\
 nL fB 25=true/\
 pY fB 25=true/\
 o9 fB 28=some (false,1)/\
 nY fB 28=none/\
 ou fB 28=some [.int .i64 0]/\
 rV fB 28=false/\
 ao1 fB 28=some .i64/\
 nL fB 28=false/\
 pY fB 28=true/\
 o9 fB 33=some (false,1)/\
 nY fB 33=none/\
 ou fB 33=some [.uS .nilFunc]/\
 rV fB 33=false/\
 nL fB 33=true/\
 pY fB 33=true/\
 o9 fB 34=some (false,1)/\
 nY fB 34=some (112,2,32)/\
 ou fB 34=some [.mj true 0 []]/\
 rV fB 34=false/\
 nL fB 34=true/\
 pY fB 34=true/\
 o9 fB 35=some (false,1)/\
 nY fB 35=some (37,8,120)/\
 ou fB 35=some [.mj true 0 []]/\
 rV fB 35=false/\
 nL fB 35=true/\
 pY fB 35=true/\
 o9 fB 37=some (true,8)/\
 ve fB 37=true/\
 rC fB 37 0=some (0,3)/\
 mi fB 37 0=some (0,1)/\
 rC fB 37 1=some (1,9)/\
 mi fB 37 1=some (1,1)/\
 rC fB 37 2=some (2,3)/\
 mi fB 37 2=some (2,1)/\
 rC fB 37 3=some (3,23)/\
 mi fB 37 3=some (3,1)/\
 rC fB 37 4=some (4,34)/\
 mi fB 37 4=some (4,1)/\
 rC fB 37 5=some (5,35)/\
 mi fB 37 5=some (5,1)/\
 rC fB 37 6=some (6,3)/\
 mi fB 37 6=some (6,1)/\
 rC fB 37 7=some (7,3)/\
 mi fB 37 7=some (7,1)/\
 nY fB 37=none/\
 ou fB 37=some [.int .i64 0,.str fE,.int .i64 0,.mj true 0 [],.mj true 0 [],.mj true 0 [],.int .i64 0,.int .i64 0]/\
 rV fB 37=false/\
 nL fB 37=true:=
 ⟨kX,kX,kX,kX,kX,kX,kX,kX,kX,kX,kX,kX,kX,kX,kX,kX,kX,kX,kX,kX,kX,kX,kX,kX,kX,kX,kX,kX,kX,kX,kX,kX,kX,kX,kX,kX,kX,kX,kX,kX,kX,kX,kX,kX,kX,kX,kX,kX,kX,kX,kX,kX,kX,kX,kX,kX,kX,kX,kX,kX,kX,kX,kX,kX,kX,kX,kX,kX,kX,kX,kX,kX,kX,kX,kX,kX,kX,kX,kX,kX,kX,kX,kX,kX,kX,kX,kX,kX,kX,kX,kX,kX,kX,kX,kX,kX,kX,kX,kX,kX,kX,kX,kX,kX,kX,kX,kX,kX,kX,kX,kX,kX,kX,kX,kX,kX,kX,kX,kX,kX⟩
def tf1:
 pY fB 37=true/\
 o9 fB 42=some (false,1)/\
 nY fB 42=some (131,23,360)/\
 ou fB 42=some [.mj true 0 []]/\
 rV fB 42=false/\
 nL fB 42=true/\
 pY fB 42=true/\
 o9 fB 43=some (false,1)/\
 nY fB 43=some (432,2,40)/\
 ou fB 43=some [.mj true 0 []]/\
 rV fB 43=false/\
 nL fB 43=true/\
 pY fB 43=true/\
 o9 fB 45=some (true,7)/\
 ve fB 45=true/\
 rC fB 45 0=some (0,42)/\
 mi fB 45 0=some (0,1)/\
 rC fB 45 1=some (1,43)/\
 mi fB 45 1=some (1,1)/\
 rC fB 45 2=some (2,23)/\
 mi fB 45 2=some (2,1)/\
 rC fB 45 3=some (3,23)/\
 mi fB 45 3=some (3,1)/\
 rC fB 45 4=some (4,22)/\
 mi fB 45 4=some (4,1)/\
 rC fB 45 5=some (5,23)/\
 mi fB 45 5=some (5,1)/\
 rC fB 45 6=some (6,23)/\
 mi fB 45 6=some (6,1)/\
 nY fB 45=none/\
 ou fB 45=some [.mj true 0 [],.mj true 0 [],.mj true 0 [],.mj true 0 [],.mj true 0 [],.mj true 0 [],.mj true 0 []]/\
 rV fB 45=false/\
 nL fB 45=true/\
 pY fB 45=true/\
 o9 fB 46=some (false,1)/\
 nY fB 46=some (98,2,32)/\
 ou fB 46=some [.mj true 0 []]/\
 rV fB 46=false/\
 nL fB 46=true/\
 pY fB 46=true/\
 o9 fB 47=some (false,1)/\
 nY fB 47=some (49,5,80)/\
 ou fB 47=some [.mj true 0 []]/\
 rV fB 47=false/\
 nL fB 47=true/\
 pY fB 47=true/\
 o9 fB 49=some (true,5)/\
 ve fB 49=true/\
 rC fB 49 0=some (0,3)/\
 mi fB 49 0=some (0,1)/\
 rC fB 49 1=some (1,3)/\
 mi fB 49 1=some (1,1)/\
 rC fB 49 2=some (2,9)/\
 mi fB 49 2=some (2,1)/\
 rC fB 49 3=some (3,46)/\
 mi fB 49 3=some (3,1)/\
 rC fB 49 4=some (4,47)/\
 mi fB 49 4=some (4,1)/\
 nY fB 49=none/\
 ou fB 49=some [.int .i64 0,.int .i64 0,.str fE,.mj true 0 [],.mj true 0 []]/\
 rV fB 49=false/\
 nL fB 49=true/\
 pY fB 49=true/\
 o9 fB 72=some (false,1)/\
 nY fB 72=none/\
 ou fB 72=some [.uS .nilFunc]/\
 rV fB 72=false/\
 nL fB 72=true/\
 pY fB 72=true/\
 o9 fB 74=some (false,1)/\
 nY fB 74=none/\
 ou fB 74=some [.uS .nilFunc]/\
 rV fB 74=false/\
 nL fB 74=true/\
 pY fB 74=true/\
 o9 fB 76=some (false,1)/\
 nY fB 76=none/\
 ou fB 76=some [.uS (.pointer none)]/\
 rV fB 76=false/\
 nL fB 76=true/\
 pY fB 76=true/\
 o9 fB 85=some (true,2)/\
 ve fB 85=true/\
 rC fB 85 0=some (0,28)/\
 mi fB 85 0=some (0,1)/\
 rC fB 85 1=some (1,3)/\
 mi fB 85 1=some (1,1)/\
 nY fB 85=none/\
 ou fB 85=some [.int .i64 0,.int .i64 0]/\
 rV fB 85=false/\
 nL fB 85=true/\
 pY fB 85=true/\
 o9 fB 87=some (false,1)/\
 nY fB 87=none/\
 ou fB 87=some [.uS (.pointer none)]/\
 rV fB 87=false/\
 nL fB 87=true/\
 pY fB 87=true/\
 o9 fB 96=some (false,1)/\
 nY fB 96=some (116,2,16)/\
 ou fB 96=some [.mj true 0 []]/\
 rV fB 96=false/\
 nL fB 96=true/\
 pY fB 96=true/\
 o9 fB 98=some (true,2)/\
 ve fB 98=true/\
 rC fB 98 0=some (0,3)/\
 mi fB 98 0=some (0,1)/\
 rC fB 98 1=some (1,96)/\
 mi fB 98 1=some (1,1)/\
 nY fB 98=none/\
 ou fB 98=some [.int .i64 0,.mj true 0 []]/\
 rV fB 98=false/\
 nL fB 98=true/\
 pY fB 98=true/\
 o9 fB 99=some (false,1)/\
 nY fB 99=none/\
 ou fB 99=some [.uS .nilFunc]/\
 rV fB 99=false/\
 nL fB 99=true:=
 ⟨kX,kX,kX,kX,kX,kX,kX,kX,kX,kX,kX,kX,kX,kX,kX,kX,kX,kX,kX,kX,kX,kX,kX,kX,kX,kX,kX,kX,kX,kX,kX,kX,kX,kX,kX,kX,kX,kX,kX,kX,kX,kX,kX,kX,kX,kX,kX,kX,kX,kX,kX,kX,kX,kX,kX,kX,kX,kX,kX,kX,kX,kX,kX,kX,kX,kX,kX,kX,kX,kX,kX,kX,kX,kX,kX,kX,kX,kX,kX,kX,kX,kX,kX,kX,kX,kX,kX,kX,kX,kX,kX,kX,kX,kX,kX,kX,kX,kX,kX,kX,kX,kX,kX,kX,kX,kX,kX,kX,kX,kX,kX,kX,kX,kX,kX,kX,kX,kX,kX,kX⟩
def tf2:
 pY fB 99=true/\
 o9 fB 100=some (false,1)/\
 nY fB 100=none/\
 ou fB 100=some [.uS (.pointer none)]/\
 rV fB 100=false/\
 nL fB 100=true/\
 pY fB 100=true/\
 o9 fB 102=some (false,1)/\
 nY fB 102=some (9,1,16)/\
 ou fB 102=some [.mj true 0 []]/\
 rV fB 102=false/\
 nL fB 102=true/\
 pY fB 102=true/\
 o9 fB 104=some (true,11)/\
 ve fB 104=true/\
 rC fB 104 0=some (0,45)/\
 mi fB 104 0=some (0,7)/\
 rC fB 104 1=some (7,102)/\
 mi fB 104 1=some (7,1)/\
 rC fB 104 2=some (8,23)/\
 mi fB 104 2=some (8,1)/\
 rC fB 104 3=some (9,23)/\
 mi fB 104 3=some (9,1)/\
 rC fB 104 4=some (10,23)/\
 mi fB 104 4=some (10,1)/\
 nY fB 104=none/\
 ou fB 104=some [.mj true 0 [],.mj true 0 [],.mj true 0 [],.mj true 0 [],.mj true 0 [],.mj true 0 [],.mj true 0 [],.mj true 0 [],.mj true 0 [],.mj true 0 [],.mj true 0 []]/\
 rV fB 104=false/\
 nL fB 104=true/\
 pY fB 104=true/\
 o9 fB 110=some (false,1)/\
 nY fB 110=some (114,2,24)/\
 ou fB 110=some [.mj true 0 []]/\
 rV fB 110=false/\
 nL fB 110=true/\
 pY fB 110=true/\
 o9 fB 112=some (true,2)/\
 ve fB 112=true/\
 rC fB 112 0=some (0,4)/\
 mi fB 112 0=some (0,1)/\
 rC fB 112 1=some (1,110)/\
 mi fB 112 1=some (1,1)/\
 nY fB 112=none/\
 ou fB 112=some [.bool false,.mj true 0 []]/\
 rV fB 112=false/\
 nL fB 112=true/\
 pY fB 112=true/\
 o9 fB 114=some (true,2)/\
 ve fB 114=true/\
 rC fB 114 0=some (0,9)/\
 mi fB 114 0=some (0,1)/\
 rC fB 114 1=some (1,3)/\
 mi fB 114 1=some (1,1)/\
 nY fB 114=none/\
 ou fB 114=some [.str fE,.int .i64 0]/\
 rV fB 114=false/\
 nL fB 114=true/\
 pY fB 114=true/\
 o9 fB 116=some (true,2)/\
 ve fB 116=true/\
 rC fB 116 0=some (0,3)/\
 mi fB 116 0=some (0,1)/\
 rC fB 116 1=some (1,3)/\
 mi fB 116 1=some (1,1)/\
 nY fB 116=none/\
 ou fB 116=some [.int .i64 0,.int .i64 0]/\
 rV fB 116=false/\
 nL fB 116=true/\
 pY fB 116=true/\
 o9 fB 126=some (false,1)/\
 nY fB 126=some (199,6,96)/\
 ou fB 126=some [.mj true 0 []]/\
 rV fB 126=false/\
 nL fB 126=true/\
 pY fB 126=true/\
 o9 fB 128=some (true,7)/\
 ve fB 128=true/\
 rC fB 128 0=some (0,3)/\
 mi fB 128 0=some (0,1)/\
 rC fB 128 1=some (1,49)/\
 mi fB 128 1=some (1,5)/\
 rC fB 128 2=some (6,47)/\
 mi fB 128 2=some (6,1)/\
 nY fB 128=none/\
 ou fB 128=some [.int .i64 0,.int .i64 0,.int .i64 0,.str fE,.mj true 0 [],.mj true 0 [],.mj true 0 []]/\
 rV fB 128=false/\
 nL fB 128=true/\
 pY fB 128=true/\
 o9 fB 129=some (false,1)/\
 nY fB 129=some (204,15,224)/\
 ou fB 129=some [.mj true 0 []]/\
 rV fB 129=false/\
 nL fB 129=true/\
 pY fB 129=true/\
 o9 fB 131=some (true,23)/\
 ve fB 131=true/\
 rC fB 131 0=some (0,3)/\
 mi fB 131 0=some (0,1)/\
 rC fB 131 1=some (1,9)/\
 mi fB 131 1=some (1,1)/\
 rC fB 131 2=some (2,3)/\
 mi fB 131 2=some (2,1)/\
 rC fB 131 3=some (3,49)/\
 mi fB 131 3=some (3,5)/\
 rC fB 131 4=some (8,49)/\
 mi fB 131 4=some (8,5)/\
 rC fB 131 5=some (13,3)/\
 mi fB 131 5=some (13,1)/\
 rC fB 131 6=some (14,126)/\
 mi fB 131 6=some (14,1)/\
 rC fB 131 7=some (15,128)/\
 mi fB 131 7=some (15,7)/\
 rC fB 131 8=some (22,129)/\
 mi fB 131 8=some (22,1)/\
 nY fB 131=none/\
 ou fB 131=some [.int .i64 0,.str fE,.int .i64 0,.int .i64 0,.int .i64 0,.str fE,.mj true 0 [],.mj true 0 [],.int .i64 0,.int .i64 0,.str fE,.mj true 0 [],.mj true 0 [],.int .i64 0,.mj true 0 [],.int .i64 0,.int .i64 0,.int .i64 0,.str fE,.mj true 0 [],.mj true 0 [],.mj true 0 [],.mj true 0 []]/\
 rV fB 131=false/\
 nL fB 131=true/\
 pY fB 131=true/\
 o9 fB 134=some (false,1):=
 ⟨kX,kX,kX,kX,kX,kX,kX,kX,kX,kX,kX,kX,kX,kX,kX,kX,kX,kX,kX,kX,kX,kX,kX,kX,kX,kX,kX,kX,kX,kX,kX,kX,kX,kX,kX,kX,kX,kX,kX,kX,kX,kX,kX,kX,kX,kX,kX,kX,kX,kX,kX,kX,kX,kX,kX,kX,kX,kX,kX,kX,kX,kX,kX,kX,kX,kX,kX,kX,kX,kX,kX,kX,kX,kX,kX,kX,kX,kX,kX,kX,kX,kX,kX,kX,kX,kX,kX,kX,kX,kX,kX,kX,kX,kX,kX,kX,kX,kX,kX,kX,kX,kX,kX,kX,kX,kX,kX,kX,kX,kX,kX,kX,kX,kX,kX,kX,kX,kX,kX,kX⟩
def tf3:
 nY fB 134=none/\
 ou fB 134=some [.uS .nilFunc]/\
 rV fB 134=false/\
 nL fB 134=true/\
 pY fB 134=true/\
 o9 fB 135=some (false,1)/\
 nY fB 135=none/\
 ou fB 135=some [.uS (.pointer none)]/\
 rV fB 135=false/\
 nL fB 135=true/\
 pY fB 135=true/\
 o9 fB 136=some (false,1)/\
 nY fB 136=none/\
 ou fB 136=some [.uS (.pointer none)]/\
 rV fB 136=false/\
 nL fB 136=true/\
 pY fB 136=true/\
 o9 fB 137=some (false,1)/\
 nY fB 137=some (5,1,1)/\
 ou fB 137=some [.mj true 0 []]/\
 rV fB 137=false/\
 nL fB 137=true/\
 pY fB 137=true/\
 o9 fB 139=some (true,2)/\
 ve fB 139=true/\
 rC fB 139 0=some (0,136)/\
 mi fB 139 0=some (0,1)/\
 rC fB 139 1=some (1,137)/\
 mi fB 139 1=some (1,1)/\
 nY fB 139=none/\
 ou fB 139=some [.uS (.pointer none),.mj true 0 []]/\
 rV fB 139=false/\
 nL fB 139=true/\
 pY fB 139=true/\
 o9 fB 141=some (true,4)/\
 ve fB 141=true/\
 rC fB 141 0=some (0,139)/\
 mi fB 141 0=some (0,2)/\
 rC fB 141 1=some (2,22)/\
 mi fB 141 1=some (2,1)/\
 rC fB 141 2=some (3,4)/\
 mi fB 141 2=some (3,1)/\
 nY fB 141=none/\
 ou fB 141=some [.uS (.pointer none),.mj true 0 [],.mj true 0 [],.bool false]/\
 rV fB 141=false/\
 nL fB 141=true/\
 pY fB 141=true/\
 o9 fB 142=some (false,1)/\
 nY fB 142=none/\
 ou fB 142=some [.uS .nilFunc]/\
 rV fB 142=false/\
 nL fB 142=true/\
 pY fB 142=true/\
 o9 fB 147=some (false,1)/\
 nY fB 147=none/\
 ou fB 147=some [.uS (.map none)]/\
 agj fB 147=some (.agg [.mj true 0 [],.int .i64 0,.int .i64 0,.str fE])/\
 rV fB 147=false/\
 nL fB 147=true/\
 pY fB 147=true/\
 o9 fB 148=some (false,1)/\
 nY fB 148=none/\
 ou fB 148=some [.uS (.map none)]/\
 agj fB 148=some (.bool false)/\
 rV fB 148=false/\
 nL fB 148=true/\
 pY fB 148=true/\
 o9 fB 150=some (true,4)/\
 ve fB 150=true/\
 rC fB 150 0=some (0,147)/\
 mi fB 150 0=some (0,1)/\
 rC fB 150 1=some (1,147)/\
 mi fB 150 1=some (1,1)/\
 rC fB 150 2=some (2,148)/\
 mi fB 150 2=some (2,1)/\
 rC fB 150 3=some (3,3)/\
 mi fB 150 3=some (3,1)/\
 nY fB 150=none/\
 ou fB 150=some [.uS (.map none),.uS (.map none),.uS (.map none),.int .i64 0]/\
 rV fB 150=false/\
 nL fB 150=true/\
 pY fB 150=true/\
 o9 fB 155=some (false,1)/\
 nY fB 155=some (170,3,32)/\
 ou fB 155=some [.mj true 0 []]/\
 rV fB 155=false/\
 nL fB 155=true/\
 pY fB 155=true/\
 o9 fB 157=some (true,3)/\
 ve fB 157=true/\
 rC fB 157 0=some (0,155)/\
 mi fB 157 0=some (0,1)/\
 rC fB 157 1=some (1,3)/\
 mi fB 157 1=some (1,1)/\
 rC fB 157 2=some (2,3)/\
 mi fB 157 2=some (2,1)/\
 nY fB 157=none/\
 ou fB 157=some [.mj true 0 [],.int .i64 0,.int .i64 0]/\
 rV fB 157=false/\
 nL fB 157=true/\
 pY fB 157=true/\
 o9 fB 160=some (true,6)/\
 ve fB 160=true/\
 rC fB 160 0=some (0,157)/\
 mi fB 160 0=some (0,3)/\
 rC fB 160 1=some (3,22)/\
 mi fB 160 1=some (3,1)/\
 rC fB 160 2=some (4,23)/\
 mi fB 160 2=some (4,1)/\
 rC fB 160 3=some (5,3)/\
 mi fB 160 3=some (5,1)/\
 nY fB 160=none/\
 ou fB 160=some [.mj true 0 [],.int .i64 0,.int .i64 0,.mj true 0 [],.mj true 0 [],.int .i64 0]/\
 rV fB 160=false/\
 nL fB 160=true/\
 pY fB 160=true/\
 o9 fB 166=some (false,1)/\
 nY fB 166=some (225,9,136)/\
 ou fB 166=some [.mj true 0 []]/\
 rV fB 166=false:=
 ⟨kX,kX,kX,kX,kX,kX,kX,kX,kX,kX,kX,kX,kX,kX,kX,kX,kX,kX,kX,kX,kX,kX,kX,kX,kX,kX,kX,kX,kX,kX,kX,kX,kX,kX,kX,kX,kX,kX,kX,kX,kX,kX,kX,kX,kX,kX,kX,kX,kX,kX,kX,kX,kX,kX,kX,kX,kX,kX,kX,kX,kX,kX,kX,kX,kX,kX,kX,kX,kX,kX,kX,kX,kX,kX,kX,kX,kX,kX,kX,kX,kX,kX,kX,kX,kX,kX,kX,kX,kX,kX,kX,kX,kX,kX,kX,kX,kX,kX,kX,kX,kX,kX,kX,kX,kX,kX,kX,kX,kX,kX,kX,kX,kX,kX,kX,kX,kX,kX,kX,kX⟩
def tf4:
 nL fB 166=true/\
 pY fB 166=true/\
 o9 fB 170=some (true,3)/\
 ve fB 170=true/\
 rC fB 170 0=some (0,3)/\
 mi fB 170 0=some (0,1)/\
 rC fB 170 1=some (1,9)/\
 mi fB 170 1=some (1,1)/\
 rC fB 170 2=some (2,3)/\
 mi fB 170 2=some (2,1)/\
 nY fB 170=none/\
 ou fB 170=some [.int .i64 0,.str fE,.int .i64 0]/\
 rV fB 170=false/\
 nL fB 170=true/\
 pY fB 170=true/\
 o9 fB 187=some (false,1)/\
 nY fB 187=none/\
 ou fB 187=some [.uS .nilFunc]/\
 rV fB 187=false/\
 nL fB 187=true/\
 pY fB 187=true/\
 o9 fB 199=some (true,6)/\
 ve fB 199=true/\
 rC fB 199 0=some (0,9)/\
 mi fB 199 0=some (0,1)/\
 rC fB 199 1=some (1,49)/\
 mi fB 199 1=some (1,5)/\
 nY fB 199=none/\
 ou fB 199=some [.str fE,.int .i64 0,.int .i64 0,.str fE,.mj true 0 [],.mj true 0 []]/\
 rV fB 199=false/\
 nL fB 199=true/\
 pY fB 199=true/\
 o9 fB 200=some (false,1)/\
 nY fB 200=some (345,10,144)/\
 ou fB 200=some [.mj true 0 []]/\
 rV fB 200=false/\
 nL fB 200=true/\
 pY fB 200=true/\
 o9 fB 202=some (true,8)/\
 ve fB 202=true/\
 rC fB 202 0=some (0,3)/\
 mi fB 202 0=some (0,1)/\
 rC fB 202 1=some (1,49)/\
 mi fB 202 1=some (1,5)/\
 rC fB 202 2=some (6,3)/\
 mi fB 202 2=some (6,1)/\
 rC fB 202 3=some (7,200)/\
 mi fB 202 3=some (7,1)/\
 nY fB 202=none/\
 ou fB 202=some [.int .i64 0,.int .i64 0,.int .i64 0,.str fE,.mj true 0 [],.mj true 0 [],.int .i64 0,.mj true 0 []]/\
 rV fB 202=false/\
 nL fB 202=true/\
 pY fB 202=true/\
 o9 fB 204=some (true,15)/\
 ve fB 204=true/\
 rC fB 204 0=some (0,9)/\
 mi fB 204 0=some (0,1)/\
 rC fB 204 1=some (1,49)/\
 mi fB 204 1=some (1,5)/\
 rC fB 204 2=some (6,3)/\
 mi fB 204 2=some (6,1)/\
 rC fB 204 3=some (7,202)/\
 mi fB 204 3=some (7,8)/\
 nY fB 204=none/\
 ou fB 204=some [.str fE,.int .i64 0,.int .i64 0,.str fE,.mj true 0 [],.mj true 0 [],.int .i64 0,.int .i64 0,.int .i64 0,.int .i64 0,.str fE,.mj true 0 [],.mj true 0 [],.int .i64 0,.mj true 0 []]/\
 rV fB 204=false/\
 nL fB 204=true/\
 pY fB 204=true/\
 o9 fB 206=some (false,1)/\
 nY fB 206=none/\
 ou fB 206=some [.uS .nilFunc]/\
 rV fB 206=false/\
 nL fB 206=true/\
 pY fB 206=true/\
 o9 fB 222=some (false,1)/\
 nY fB 222=none/\
 ou fB 222=some [.uS (.pointer none)]/\
 rV fB 222=false/\
 nL fB 222=true/\
 pY fB 222=true/\
 o9 fB 225=some (true,9)/\
 ve fB 225=true/\
 rC fB 225 0=some (0,9)/\
 mi fB 225 0=some (0,1)/\
 rC fB 225 1=some (1,37)/\
 mi fB 225 1=some (1,8)/\
 nY fB 225=none/\
 ou fB 225=some [.str fE,.int .i64 0,.str fE,.int .i64 0,.mj true 0 [],.mj true 0 [],.mj true 0 [],.int .i64 0,.int .i64 0]/\
 rV fB 225=false/\
 nL fB 225=true/\
 pY fB 225=true/\
 o9 fB 234=some (false,1)/\
 nY fB 234=none/\
 ou fB 234=some [.uS .nilFunc]/\
 rV fB 234=false/\
 nL fB 234=true/\
 pY fB 234=true/\
 o9 fB 236=some (true,5)/\
 ve fB 236=true/\
 rC fB 236 0=some (0,4)/\
 mi fB 236 0=some (0,1)/\
 rC fB 236 1=some (1,4)/\
 mi fB 236 1=some (1,1)/\
 rC fB 236 2=some (2,3)/\
 mi fB 236 2=some (2,1)/\
 rC fB 236 3=some (3,3)/\
 mi fB 236 3=some (3,1)/\
 rC fB 236 4=some (4,3)/\
 mi fB 236 4=some (4,1)/\
 nY fB 236=none/\
 ou fB 236=some [.bool false,.bool false,.int .i64 0,.int .i64 0,.int .i64 0]/\
 rV fB 236=false/\
 nL fB 236=true/\
 pY fB 236=true/\
 o9 fB 237=some (true,65)/\
 aqU fB 237=some (13,5)/\
 ve fB 237=true/\
 mi fB 237 0=some (0,5)/\
 mi fB 237 1=some (5,5)/\
 mi fB 237 2=some (10,5):=
 ⟨kX,kX,kX,kX,kX,kX,kX,kX,kX,kX,kX,kX,kX,kX,kX,kX,kX,kX,kX,kX,kX,kX,kX,kX,kX,kX,kX,kX,kX,kX,kX,kX,kX,kX,kX,kX,kX,kX,kX,kX,kX,kX,kX,kX,kX,kX,kX,kX,kX,kX,kX,kX,kX,kX,kX,kX,kX,kX,kX,kX,kX,kX,kX,kX,kX,kX,kX,kX,kX,kX,kX,kX,kX,kX,kX,kX,kX,kX,kX,kX,kX,kX,kX,kX,kX,kX,kX,kX,kX,kX,kX,kX,kX,kX,kX,kX,kX,kX,kX,kX,kX,kX,kX,kX,kX,kX,kX,kX,kX,kX,kX,kX,kX,kX,kX,kX,kX,kX,kX,kX⟩
def tf5:
 mi fB 237 3=some (15,5)/\
 mi fB 237 4=some (20,5)/\
 mi fB 237 5=some (25,5)/\
 mi fB 237 6=some (30,5)/\
 mi fB 237 7=some (35,5)/\
 mi fB 237 8=some (40,5)/\
 mi fB 237 9=some (45,5)/\
 mi fB 237 10=some (50,5)/\
 mi fB 237 11=some (55,5)/\
 mi fB 237 12=some (60,5)/\
 nY fB 237=none/\
 ou fB 237=some [.bool false,.bool false,.int .i64 0,.int .i64 0,.int .i64 0,.bool false,.bool false,.int .i64 0,.int .i64 0,.int .i64 0,.bool false,.bool false,.int .i64 0,.int .i64 0,.int .i64 0,.bool false,.bool false,.int .i64 0,.int .i64 0,.int .i64 0,.bool false,.bool false,.int .i64 0,.int .i64 0,.int .i64 0,.bool false,.bool false,.int .i64 0,.int .i64 0,.int .i64 0,.bool false,.bool false,.int .i64 0,.int .i64 0,.int .i64 0,.bool false,.bool false,.int .i64 0,.int .i64 0,.int .i64 0,.bool false,.bool false,.int .i64 0,.int .i64 0,.int .i64 0,.bool false,.bool false,.int .i64 0,.int .i64 0,.int .i64 0,.bool false,.bool false,.int .i64 0,.int .i64 0,.int .i64 0,.bool false,.bool false,.int .i64 0,.int .i64 0,.int .i64 0,.bool false,.bool false,.int .i64 0,.int .i64 0,.int .i64 0]/\
 rV fB 237=false/\
 nL fB 237=true/\
 pY fB 237=true/\
 o9 fB 240=some (true,13)/\
 aqU fB 240=some (13,1)/\
 ve fB 240=true/\
 am7 fB 240=some 13/\
 mi fB 240 0=some (0,1)/\
 mi fB 240 1=some (1,1)/\
 mi fB 240 2=some (2,1)/\
 mi fB 240 3=some (3,1)/\
 mi fB 240 4=some (4,1)/\
 mi fB 240 5=some (5,1)/\
 mi fB 240 6=some (6,1)/\
 mi fB 240 7=some (7,1)/\
 mi fB 240 8=some (8,1)/\
 mi fB 240 9=some (9,1)/\
 mi fB 240 10=some (10,1)/\
 mi fB 240 11=some (11,1)/\
 mi fB 240 12=some (12,1)/\
 nY fB 240=none/\
 ou fB 240=some [.int .i64 0,.int .i64 0,.int .i64 0,.int .i64 0,.int .i64 0,.int .i64 0,.int .i64 0,.int .i64 0,.int .i64 0,.int .i64 0,.int .i64 0,.int .i64 0,.int .i64 0]/\
 rV fB 240=false/\
 nL fB 240=true/\
 pY fB 240=true/\
 o9 fB 244=some (false,1)/\
 nY fB 244=none/\
 ou fB 244=some [.uS .nilFunc]/\
 rV fB 244=false/\
 nL fB 244=true/\
 pY fB 244=true/\
 o9 fB 247=some (false,1)/\
 nY fB 247=some (3,1,8)/\
 ou fB 247=some [.mj true 0 []]/\
 rV fB 247=false/\
 nL fB 247=true/\
 pY fB 247=true/\
 o9 fB 251=some (true,4)/\
 ve fB 251=true/\
 rC fB 251 0=some (0,3)/\
 mi fB 251 0=some (0,1)/\
 rC fB 251 1=some (1,3)/\
 mi fB 251 1=some (1,1)/\
 rC fB 251 2=some (2,4)/\
 mi fB 251 2=some (2,1)/\
 rC fB 251 3=some (3,33)/\
 mi fB 251 3=some (3,1)/\
 nY fB 251=none/\
 ou fB 251=some [.int .i64 0,.int .i64 0,.bool false,.uS .nilFunc]/\
 rV fB 251=false/\
 nL fB 251=true/\
 pY fB 251=true/\
 o9 fB 267=some (false,1)/\
 nY fB 267=none/\
 ou fB 267=some [.uS (.pointer none)]/\
 rV fB 267=false/\
 nL fB 267=true/\
 pY fB 267=true/\
 o9 fB 270=some (true,5)/\
 ve fB 270=true/\
 rC fB 270 0=some (0,9)/\
 mi fB 270 0=some (0,1)/\
 rC fB 270 1=some (1,3)/\
 mi fB 270 1=some (1,1)/\
 rC fB 270 2=some (2,148)/\
 mi fB 270 2=some (2,1)/\
 rC fB 270 3=some (3,148)/\
 mi fB 270 3=some (3,1)/\
 rC fB 270 4=some (4,148)/\
 mi fB 270 4=some (4,1)/\
 nY fB 270=none/\
 ou fB 270=some [.str fE,.int .i64 0,.uS (.map none),.uS (.map none),.uS (.map none)]/\
 rV fB 270=false/\
 nL fB 270=true/\
 pY fB 270=true/\
 o9 fB 271=some (false,1)/\
 nY fB 271=some (23,1,24)/\
 ou fB 271=some [.mj true 0 []]/\
 rV fB 271=false/\
 nL fB 271=true/\
 pY fB 271=true/\
 o9 fB 272=some (false,1)/\
 nY fB 272=none/\
 ou fB 272=some [.uS .nilFunc]/\
 rV fB 272=false/\
 nL fB 272=true/\
 pY fB 272=true/\
 o9 fB 273=some (true,4)/\
 aqU fB 273=some (4,1)/\
 ve fB 273=true/\
 mi fB 273 0=some (0,1)/\
 mi fB 273 1=some (1,1)/\
 mi fB 273 2=some (2,1)/\
 mi fB 273 3=some (3,1)/\
 nY fB 273=none/\
 ou fB 273=some [.uS .nilFunc,.uS .nilFunc,.uS .nilFunc,.uS .nilFunc]/\
 rV fB 273=false/\
 nL fB 273=true/\
 pY fB 273=true/\
 o9 fB 281=some (false,1)/\
 nY fB 281=none/\
 ou fB 281=some [.uS .nilFunc]/\
 rV fB 281=false/\
 nL fB 281=true/\
 pY fB 281=true/\
 o9 fB 285=some (false,1)/\
 nY fB 285=some (9,1,16)/\
 ou fB 285=some [.mj true 0 []]:=
 ⟨kX,kX,kX,kX,kX,kX,kX,kX,kX,kX,kX,kX,kX,kX,kX,kX,kX,kX,kX,kX,kX,kX,kX,kX,kX,kX,kX,kX,kX,kX,kX,kX,kX,kX,kX,kX,kX,kX,kX,kX,kX,kX,kX,kX,kX,kX,kX,kX,kX,kX,kX,kX,kX,kX,kX,kX,kX,kX,kX,kX,kX,kX,kX,kX,kX,kX,kX,kX,kX,kX,kX,kX,kX,kX,kX,kX,kX,kX,kX,kX,kX,kX,kX,kX,kX,kX,kX,kX,kX,kX,kX,kX,kX,kX,kX,kX,kX,kX,kX,kX,kX,kX,kX,kX,kX,kX,kX,kX,kX,kX,kX,kX,kX,kX,kX,kX,kX,kX,kX,kX⟩
def tf6:
 rV fB 285=false/\
 nL fB 285=true/\
 pY fB 285=true/\
 o9 fB 308=some (false,1)/\
 nY fB 308=none/\
 ou fB 308=some [.uS (.pointer none)]/\
 rV fB 308=false/\
 nL fB 308=true/\
 pY fB 308=true/\
 o9 fB 310=some (true,3)/\
 ve fB 310=true/\
 rC fB 310 0=some (0,76)/\
 mi fB 310 0=some (0,1)/\
 rC fB 310 1=some (1,35)/\
 mi fB 310 1=some (1,1)/\
 rC fB 310 2=some (2,3)/\
 mi fB 310 2=some (2,1)/\
 nY fB 310=none/\
 ou fB 310=some [.uS (.pointer none),.mj true 0 [],.int .i64 0]/\
 rV fB 310=false/\
 nL fB 310=true/\
 pY fB 310=true/\
 o9 fB 312=some (true,0)/\
 ve fB 312=true/\
 nY fB 312=none/\
 ou fB 312=some []/\
 rV fB 312=false/\
 nL fB 312=true/\
 pY fB 312=true/\
 o9 fB 325=some (false,1)/\
 nY fB 325=none/\
 ou fB 325=some [.uS (.pointer none)]/\
 rV fB 325=false/\
 nL fB 325=true/\
 pY fB 325=true/\
 o9 fB 327=some (true,1)/\
 ve fB 327=true/\
 rC fB 327 0=some (0,147)/\
 mi fB 327 0=some (0,1)/\
 nY fB 327=none/\
 ou fB 327=some [.uS (.map none)]/\
 rV fB 327=false/\
 nL fB 327=true/\
 pY fB 327=true/\
 o9 fB 330=some (true,256)/\
 aqU fB 330=some (256,1)/\
 ve fB 330=true/\
 am7 fB 330=some 256/\
 nY fB 330=none/\
 rV fB 330=false/\
 nL fB 330=true/\
 pY fB 330=true/\
 o9 fB 332=some (false,1)/\
 nY fB 332=none/\
 ou fB 332=some [.uS .nilFunc]/\
 rV fB 332=false/\
 nL fB 332=true/\
 pY fB 332=true/\
 o9 fB 337=some (true,256)/\
 aqU fB 337=some (256,1)/\
 ve fB 337=true/\
 nY fB 337=none/\
 rV fB 337=false/\
 nL fB 337=true/\
 pY fB 337=true/\
 o9 fB 345=some (true,10)/\
 ve fB 345=true/\
 rC fB 345 0=some (0,9)/\
 mi fB 345 0=some (0,1)/\
 rC fB 345 1=some (1,4)/\
 mi fB 345 1=some (1,1)/\
 rC fB 345 2=some (2,202)/\
 mi fB 345 2=some (2,8)/\
 nY fB 345=none/\
 ou fB 345=some [.str fE,.bool false,.int .i64 0,.int .i64 0,.int .i64 0,.str fE,.mj true 0 [],.mj true 0 [],.int .i64 0,.mj true 0 []]/\
 rV fB 345=false/\
 nL fB 345=true/\
 pY fB 345=true/\
 o9 fB 389=some (false,1)/\
 nY fB 389=none/\
 ou fB 389=some [.uS (.pointer none)]/\
 rV fB 389=false/\
 nL fB 389=true/\
 pY fB 389=true/\
 o9 fB 432=some (true,2)/\
 ve fB 432=true/\
 rC fB 432 0=some (0,9)/\
 mi fB 432 0=some (0,1)/\
 rC fB 432 1=some (1,247)/\
 mi fB 432 1=some (1,1)/\
 nY fB 432=none/\
 ou fB 432=some [.str fE,.mj true 0 []]/\
 rV fB 432=false/\
 nL fB 432=true/\
 pY fB 432=true/\
 tbl fB 4=true/\
 axM fB 20=true/\
 aAX fB 33=true/\
 as4 fB=true:=
 ⟨kX,kX,kX,kX,kX,kX,kX,kX,kX,kX,kX,kX,kX,kX,kX,kX,kX,kX,kX,kX,kX,kX,kX,kX,kX,kX,kX,kX,kX,kX,kX,kX,kX,kX,kX,kX,kX,kX,kX,kX,kX,kX,kX,kX,kX,kX,kX,kX,kX,kX,kX,kX,kX,kX,kX,kX,kX,kX,kX,kX,kX,kX,kX,kX,kX,kX,kX,kX,kX,kX,kX,kX,kX,kX,kX,kX,kX,kX,kX,kX,kX,kX,kX,kX,kX,kX,kX,kX,kX,kX,kX,kX,kX,kX,kX,kX,kX,kX,kX⟩
def mixed:Tryz.prog.follows .mixedOrders=true:=kX
attribute [go_sem] tf0 tf1 tf2 tf3 tf4 tf5 tf6
open Go.Proofs
set_option maxRecDepth 100000
def mG.sc(x:mG):x.cells.map sc1=x.cells:=by
 rw[mG.lB];rfl
attribute [go_sem] mG.sc
def k7.aMn:∀x y:k7,((nh k7.lU)).enc x=((nh k7.lU)).enc y->x=y:=fun x y h=>by
 have h2:k7.cells x=k7.cells y:=AV.agg.inj h;have h3:k7.of [] x.cells=k7.of [] y.cells:=by rw[h2]
 rw[k7.ow,k7.ow]at h3;exact Option.some.inj h3
def k7.aNV:(∀xs,ajU (nh k7.lU) (.map (mp (R9 (nh k7.lU)) xs))=some xs)/\ajU (nh k7.lU) (.map [])=some []/\ajU (nh k7.lU) (.map (mp K2 []))=some []:=aEj k7.aMn
def k7.aMo(l:Nat)(s:lH)(v:k7)(xs:List (lH×k7)):GG l (sb s) (.agg v.cells) (some (.map (mp (R9 (nh k7.lU)) xs)))=some {val:=.any,rd:=[l],up:=[(l,.map (mp (R9 (nh k7.lU)) (ET s v xs)))]}:=by
 have:=aHh (t:=(nh k7.lU)) (l:=l) (s:=s) (v:=v) (xs:=xs)
 rwa [show((nh k7.lU)).enc v=.agg v.cells from rfl]at this
attribute [go_sem] k7.aNV k7.aMo
abbrev Te:Type:=(kZ×Unit)
abbrev T6:Type:=(Te×Unit)
abbrev Tb:Type:=(List (lH×k7))
abbrev Ta:Type:=(List (lH×Bool))
abbrev T7:Type:=((Int×Unit)×(Tb×(Tb×(Ta×Unit))))
abbrev T8:Type:=(((List k7)×(Bool×Unit))×(lH×Unit))
abbrev T9:Type:=(lF×Unit)
abbrev Tc:Type:=(((List Syntax)×(Int×Unit))×T7)
abbrev Td:Type:=(PR (T6×(Syntax×Unit)) (T6×T9))
abbrev Tm:Type:=((List lH)×Unit)
abbrev Tf:Type:=((Unit×Int)×(Unit×(Unit×(Ta×Tm))))
abbrev Tg:Type:=((Unit×Int)×((Int×Unit)×((Bool×Unit)×Unit)))
abbrev Th:Type:=(PR ((Te×((Syntax×Unit)×Unit))×Unit) ((Te×((Syntax×Unit)×Unit))×T9))
abbrev Ti:Type:=(Unit×((Syntax×Unit)×((Int×Unit)×((Int×Unit)×Tc))))
abbrev Tj:Type:=(List ld)
abbrev Tk:Type:=((Syntax×Unit)×((Int×Unit)×((Int×Unit)×Unit)))
abbrev Tl:Type:=(PR ((Te×(Unit×(Unit×((List lz)×Unit))))×Unit) ((Te×(Unit×(Unit×((List lz)×Unit))))×T9))
abbrev Tn:Type:=((mm×Unit)×((lH×Unit)×((lH×Unit)×((Int×Unit)×Unit))))
abbrev To:Type:=((lH×(Int×Unit))×(Ta×(Ta×(Ta×Unit))))
abbrev Tp:Type:=((Unit×((List Syntax)×(Tb×Unit)))×Unit)
abbrev Tq:Type:=(PR (Tc×(Syntax×(Int×Unit))) (Tc×(Unit×Unit)))
abbrev Ts:Type:=(PR ((Unit×(Unit×((List lz)×T6)))×Unit) ((Unit×(Unit×((List lz)×T6)))×T9))
abbrev Tt:Type:=((List Syntax)×Unit)
abbrev Tu:Type:=(PR (Tc×(Syntax×Unit)) (Tc×(Unit×Unit)))
abbrev Tv:Type:=(Unit×(Tb×Unit))
abbrev Tw:Type:=((Unit×Int)×((Syntax×Unit)×((Syntax×Unit)×Unit)))
abbrev TF:Type:=(List lD)
abbrev Tx:Type:=(PR (T6×(TF×Unit)) (T6×T9))
abbrev Tz:Type:=(PR (T6×Unit) (T6×T9))
abbrev TA:Type:=(PR ((Te×(Unit×(Unit×(Tj×Unit))))×Unit) ((Te×(Unit×(Unit×(Tj×Unit))))×T9))
abbrev TB:Type:=(PR (T6×((List lz)×Unit)) (T6×T9))
abbrev TC:Type:=((lC×Unit)×Unit)
abbrev TD:Type:=((Unit×Int)×(Unit×(Ta×Unit)))
abbrev TE:Type:=((List Syntax)×(Bool×Unit))
abbrev TG:Type:=(To×(Int×(Int×(Int×Unit))))
abbrev TH:Type:=((List k7)×Unit)
abbrev TJ:Type:=(PR ((Unit×(Unit×(Tj×T6)))×Unit) ((Unit×(Unit×(Tj×T6)))×T9))
abbrev TK:Type:=(T6×(lH×Unit))
abbrev TL:Type:=((lH×Unit)×Unit)
abbrev TM:Type:=((List lO)×Unit)
abbrev TN:Type:=(PR (T6×(ld×Unit)) (T6×T9))
abbrev TO:Type:=(Tv×(Int×Unit))
abbrev TP:Type:=(PR (T6×Tm) (T6×T9))
abbrev TQ:Type:=(PR (T6×Tt) (T6×T9))
abbrev TR:Type:=((Unit×Int)×Tn)
abbrev TS:Type:=((List mG)×Int×Int)
abbrev TT:Type:=(Unit×((Int×Unit)×((Bool×Unit)×Unit)))
abbrev TU:Type:=(PR (Unit×(lI×Unit)) (Unit×T9))
abbrev TV:Type:=((Unit×T6)×Unit)
abbrev TX:Type:=(Syntax×Int×Int)
abbrev TY:Type:=(PR (Unit×Unit) (T7×Unit))
abbrev TZ:Type:=(T8×(Int×Unit))
abbrev T10:Type:=(Tv×(k7×TE))
abbrev T11:Type:=(PR (T7×(lH×Tm)) (T7×(lH×Tm)))
abbrev T12:Type:=(lH×(Unit×(Syntax×(lH×Unit))))
abbrev T13:Type:=((lC×Unit)×(Bool×Unit))
abbrev T14:Type:=(Tv×(Bool×Unit))
abbrev T15:Type:=(Unit×(Unit×(Unit×(Ta×Tm))))
abbrev T16:Type:=(T7×(Int×Unit))
abbrev T17:Type:=(PR (T6×(Int×Unit)) (T6×T9))
abbrev T18:Type:=(PR (T6×(Tj×Unit)) (T6×T9))
abbrev T19:Type:=((lH×Unit)×(Bool×Unit))
abbrev T1a:Type:=((Tj×Unit)×Unit)
abbrev T1b:Type:=(Tc×(lH×(Bool×Unit)))
abbrev T1c:Type:=(Unit×((Syntax×Unit)×((Syntax×Unit)×Unit)))
abbrev T1d:Type:=(PR (T6×Unit) (Unit×T9))
abbrev T1e:Type:=(TL×(Int×Unit))
abbrev T1f:Type:=(TC×(Int×Unit))
end Go.Abs
