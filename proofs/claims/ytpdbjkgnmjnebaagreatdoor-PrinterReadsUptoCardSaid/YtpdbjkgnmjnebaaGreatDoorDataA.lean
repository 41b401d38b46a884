/- A part of the proof: the data of the program. -/
import Derived.Test.YtpdbjkgnmjnebaaGreatDoorCoreC
import Derived.Test.YtpdbjkgnmjnebaaGreatDoorProg
import Derived.KernelRfl
import Derived.Test.YtpdbjkgnmjnebaaGreatDoorCoreD
set_option linter.all false
open Go.Proofs.Tryz renaming prog→fo
open Option renaming bind_eq_some_iff→fp
open Option.some renaming injEq→fq
open ByteArray renaming empty→fw
open List renaming drop_succ_cons→fx,drop_zero→fA,cons_append→fB,nil_append→fC,append_nil→fD,map_cons→fE,map_nil→fF
open Bool renaming true_or→fy
namespace Go.Abs
variable {c10 c11 c12 c13 c7 c8 c9:AV}{cs:List AV}{H:List j5}{n:Nat}{O:Type}
set_option maxRecDepth 10000
def as7(n:Nat)(x:Int):uc n (Ui x):=⟨trivial,trivial⟩
def aIA(n:Nat)(x:Int):uc n (asH x):=⟨trivial,trivial⟩
def wA(n:Nat)(x:kj):uc n (kX x):=⟨trivial,trivial⟩
def aA5(n:Nat)(x:Bool):uc n (am4 x):=⟨trivial,trivial⟩
def my{W:Type}{f:W->List AV}{n:Nat}(h:∀x,uc n (f x)):∀xs:List W,Jv n (mp f xs)
 |[]=>by rw[p8];trivial
 |x::xs=>by have:=my h xs;rw[p8]at this ⊢;exact⟨h x,this⟩
def ql(h:cs.length=n):kr true n cs=some (.agg cs):=by
 simp only[kr,<-h,Nat.le_refl,jM,List.take_length]
def aIB:(∀(n:Nat)(xs:List Int),Jv n (mp Ui xs)=True)/\(∀(n:Nat)(xs:List Int),Jv n (mp asH xs)=True)/\(∀(n:Nat)(xs:List kj),Jv n (mp kX xs)=True)/\∀(n:Nat)(xs:List Bool),Jv n (mp am4 xs)=True:=⟨fun n xs=>eq_true (my (as7 n) xs),fun n xs=>eq_true (my (aIA n) xs),fun n xs=>eq_true (my (wA n) xs),fun n xs=>eq_true (my (aA5 n) xs)⟩
def aGd:(∀(Y:Nat->Nat)(xs:List Int),GB Y (mp Ui xs)=mp Ui xs)/\(∀(Y:Nat->Nat)(xs:List kj),GB Y (mp kX xs)=mp kX xs)/\∀(Y:Nat->Nat)(xs:List Bool),GB Y (mp am4 xs)=mp am4 xs:=⟨fun Y xs=>vz Y _ (my (as7 0) xs),fun Y xs=>vz Y _ (my (wA 0) xs),fun Y xs=>vz Y _ (my (aA5 0) xs)⟩
attribute [go_sem] Ui kX am4 asH aIB aGd
def Mw {W:Type}{f:O->Option W}{g:W->O}(h:∀x,f (g x)=some x):∀(xs:List W)(i:Nat)(r:O),qQ f ((mp g xs).set i r)=bif decide (i<xs.length)then(f r).bind fun y=>some (xs.set i y)else some xs:=by
 intro xs;rw[p8];induction xs with
 |nil=>intro i r;simp [qQ]
 |cons x xs ih=>
  intro i r;cases i with
  |zero=>
   simp only[fE,List.set_cons_zero,qQ,asG h,List.length_cons,Nat.zero_lt_succ,decide_true,jE];cases f r<;>rfl
  |succ i=>
   simp only[fE,List.set_cons_succ,qQ,h,ih i r,List.length_cons,Nat.succ_lt_succ_iff,Option.bind_some];by_cases hi:i<xs.length
   ·simp only[hi,decide_true,jE];cases f r<;>rfl
   ·simp only[hi,decide_false,jF];rfl
def aGe:(∀(xs:List Int)(i:Nat)(r:List AV),qQ (dI1 .i64) ((mp Ui xs).set i r)=bif decide (i<xs.length)then(dI1 .i64 r).bind fun y=>some (xs.set i y)else some xs)/\(∀(xs:List Bool)(i:Nat)(r:List AV),qQ dB1 ((mp am4 xs).set i r)=bif decide (i<xs.length)then(dB1 r).bind fun y=>some (xs.set i y)else some xs)/\(∀(xs:List kj)(i:Nat)(r:List AV),qQ dS1 ((mp kX xs).set i r)=bif decide (i<xs.length)then(dS1 r).bind fun y=>some (xs.set i y)else some xs):=⟨Mw fun x=>by simp [dI1,Ui,dI],Mw fun x=>rfl,Mw fun x=>rfl⟩
attribute [go_sem] aGe
def awy{W O:Type}{f:O->Option W}{z:O}:∀n:Nat,qQ f (List.replicate n z)=bif n==0 then some [] else(f z).bind fun y=>some (List.replicate n y)
 |0=>rfl
 |n+1=>by
  simp only[List.replicate_succ,qQ,awy n];cases f z with
  |none=>rfl
  |some y=>cases n<;>rfl
attribute [go_sem] awy
def aDN{t:Bool}{z k:Nat}{r xJ:List (List AV)}{o:Option O}{x:O}(Ue:o=some x->Sn r xJ)(h:(bif Af z k r then o else none)=some x):OB (.kF t z r) (.kF false k xJ):=by
 cases hs:Af z k r with
 |false=>simp [hs]at h
 |true=>rw[hs]at h;exact ado hs (Ue h)
structure jR where
 parts:List kj
 aqg:Int
 aqh:Int
 target:kj
def jR.cells(x:jR):List AV:=[.kF false 1 (mp kX x.parts),.int .i64 x.aqg,.int .i64 x.aqh,.str (sb x.target)]
theorem jR.kN(x:jR):x.cells=[.kF false 1 (mp kX x.parts),.int .i64 x.aqg,.int .i64 x.aqh,.str (sb x.target)]:=rfl
theorem jR.jV(x:jR):x.cells=[.kF false 1 (mp kX x.parts),.int .i64 x.aqg,.int .i64 x.aqh,.str (sb x.target)]:=rfl
attribute [irreducible] jR.cells
theorem jR.length(x:jR):x.cells.length=4:=by rw[jR.jV];rfl
def jR.lI(x:jR):x.cells.all AV.lI=true:=by rw[jR.jV];rfl
theorem jR.nb(n:Nat)(x:jR):uc n x.cells:=by
 rw[jR.kN];exact⟨my (wA n) _,trivial,trivial,trivial,trivial⟩
def jR.of(H:List j5):List AV->Option jR
 |[c0,c1,c2,c3]=>(dL kW H c0).bind fun x0=>(dI .i64 c1).bind fun x1=>(dI .i64 c2).bind fun x2=>(dS c3).bind fun x3=>some (.mk x0 x1 x2 x3)
 |_=>none
def jR.mY{c0 c1 c2 c3:AV}:jR.of H [c0,c1,c2,c3]=(dL kW H c0).bind fun x0=>(dI .i64 c1).bind fun x1=>(dI .i64 c2).bind fun x2=>(dS c3).bind fun x3=>some (.mk x0 x1 x2 x3):=rfl
def jR.kR(H:List j5)(x:jR):jR.of H [.kF false 1 (mp kX x.parts),.int .i64 x.aqg,.int .i64 x.aqh,.str (sb x.target)]=some x:=by
 simp only[jR.mY,wz,tw,BD,nO,Af,beq_self_eq_true,fy,jE,dL,ye,Zu]
 try (cases x;rfl)
theorem jR.l9(H:List j5)(x:jR):jR.of H x.cells=some x:=by rw[jR.jV];exact jR.kR H x
def jR.nI{x:jR}(h:jR.of H cs=some x):lO H n cs x.cells:=by
 unfold jR.of at h;split at h
 ·simp only[fp,fq]at h;obtain⟨x0,h0,x1,h1,x2,h2,x3,h3,rfl⟩:=h;rw[jR.kN];exact(lO.cons (wh h0) (lO.cons (ut h1) (lO.cons (ut h2) (lO.cons (QS h3) lO.nil))))
 ·cases h
def jR.kv:QU jR:=⟨jR.cells,jR.of,fun _ _ _ _ h=>jR.nI h,jR.nb⟩
def jR.row:Row jR:=⟨jR.cells,jR.of [],4,fun _ _ h=>(jR.nI (n:=0) h).nG,jR.nb⟩
def jR.lU(xs:List jR):qQ (jR.of []) (mp jR.cells xs)=some xs:=yz (jR.l9 []) xs
def jR.sN:jR.row.enc=jR.cells/\jR.row.mH=jR.of []/\jR.row.sz=4/\jR.kv.enc=jR.cells/\jR.kv.mH=jR.of:=⟨rfl,rfl,rfl,rfl,rfl⟩
attribute [go_sem] jR.mY jR.l9 jR.lU jR.sN
def jR.Sp:(∀(y0:List kj)(y1:Int)(y2:Int)(y3:kj),(jR.mk y0 y1 y2 y3).parts=y0)/\(∀(y0:List kj)(y1:Int)(y2:Int)(y3:kj),(jR.mk y0 y1 y2 y3).aqg=y1)/\(∀(y0:List kj)(y1:Int)(y2:Int)(y3:kj),(jR.mk y0 y1 y2 y3).aqh=y2)/\(∀(y0:List kj)(y1:Int)(y2:Int)(y3:kj),(jR.mk y0 y1 y2 y3).target=y3):=⟨fun _ _ _ _=>rfl,fun _ _ _ _=>rfl,fun _ _ _ _=>rfl,fun _ _ _ _=>rfl⟩
attribute [go_sem] jR.Sp
def jR.nbs:(∀(n:Nat)(x:jR),Go.Abs.uc n x.cells=True)/\∀(n:Nat)(xs:List jR),Go.Abs.Jv n (mp jR.cells xs)=True:=⟨fun n x=>eq_true (jR.nb n x),fun n xs=>eq_true (my (jR.nb n) xs)⟩
def jR.ag5:(∀(Y:Nat->Nat)(x:jR),s6 Y x.cells=x.cells)/\∀(Y:Nat->Nat)(xs:List jR),GB Y (mp jR.cells xs)=mp jR.cells xs:=⟨fun Y x=>q6 Y _ (jR.nb 0 x),fun Y xs=>vz Y _ (my (jR.nb 0) xs)⟩
def jR.vw(H:List j5)(x:jR):vwL H x.cells=some (x.cells,[]):=Ag H _ (jR.nb 0 x)
attribute [go_sem] jR.vw
def jR.reads:
 (∀x:jR,cellsOf (.agg x.cells)=some x.cells)/\
 (∀x:jR,kr true 4 x.cells=some (.agg x.cells))/\
 (∀x:jR,kr false 1 x.cells=some (.kF false 1 (mp kX x.parts)))/\
 (∀x:jR,kr false 1 (x.cells.drop 1)=some (.int .i64 x.aqg))/\
 (∀x:jR,kr false 1 (x.cells.drop 2)=some (.int .i64 x.aqh))/\
 (∀x:jR,kr false 1 (x.cells.drop 3)=some (.str (sb x.target))):=
 ⟨fun x=>by simp only[cellsOf,jR.lI,jM],
  fun x=>ql (jR.length x),
  fun x=>by rw[jR.jV];rfl,
  fun x=>by rw[jR.jV];rfl,
  fun x=>by rw[jR.jV];rfl,
  fun x=>by rw[jR.jV];rfl⟩
def jR.as8(x:jR)(o:Nat)(xs:List AV):vq x.cells o xs=vq [.kF false 1 (mp kX x.parts),.int .i64 x.aqg,.int .i64 x.aqh,.str (sb x.target)] o xs:=by rw[jR.jV]
attribute [go_sem] jR.nbs jR.ag5 jR.reads jR.length jR.lI
attribute [go_sem low] jR.as8
structure j7 where
 name:kj
 plus:Int
def j7.cells(x:j7):List AV:=[.str (sb x.name),.int .i64 x.plus]
theorem j7.kN(x:j7):x.cells=[.str (sb x.name),.int .i64 x.plus]:=rfl
theorem j7.jV(x:j7):x.cells=[.str (sb x.name),.int .i64 x.plus]:=rfl
attribute [irreducible] j7.cells
theorem j7.length(x:j7):x.cells.length=2:=by rw[j7.jV];rfl
def j7.lI(x:j7):x.cells.all AV.lI=true:=by rw[j7.jV];rfl
theorem j7.nb(n:Nat)(x:j7):uc n x.cells:=by
 rw[j7.kN];exact⟨trivial,trivial,trivial⟩
def j7.of(H:List j5):List AV->Option j7
 |[c0,c1]=>(dS c0).bind fun x0=>(dI .i64 c1).bind fun x1=>some (.mk x0 x1)
 |_=>none
def j7.mY{c0 c1:AV}:j7.of H [c0,c1]=(dS c0).bind fun x0=>(dI .i64 c1).bind fun x1=>some (.mk x0 x1):=rfl
def j7.kR(H:List j5)(x:j7):j7.of H [.str (sb x.name),.int .i64 x.plus]=some x:=by
 simp only[j7.mY,wz,tw,BD,nO,Af,beq_self_eq_true,fy,jE,dL]
 try (cases x;rfl)
theorem j7.l9(H:List j5)(x:j7):j7.of H x.cells=some x:=by rw[j7.jV];exact j7.kR H x
def j7.nI{x:j7}(h:j7.of H cs=some x):lO H n cs x.cells:=by
 unfold j7.of at h;split at h
 ·simp only[fp,fq]at h;obtain⟨x0,h0,x1,h1,rfl⟩:=h;rw[j7.kN];exact(lO.cons (QS h0) (lO.cons (ut h1) lO.nil))
 ·cases h
def j7.kv:QU j7:=⟨j7.cells,j7.of,fun _ _ _ _ h=>j7.nI h,j7.nb⟩
def j7.row:Row j7:=⟨j7.cells,j7.of [],2,fun _ _ h=>(j7.nI (n:=0) h).nG,j7.nb⟩
def j7.lU(xs:List j7):qQ (j7.of []) (mp j7.cells xs)=some xs:=yz (j7.l9 []) xs
def j7.Mw(xs:List j7)(i:Nat)(r:List AV):qQ (j7.of []) ((mp j7.cells xs).set i r)=bif decide (i<xs.length)then(j7.of [] r).bind fun y=>some (xs.set i y)else some xs:=Go.Abs.Mw (j7.l9 []) xs i r
attribute [go_sem low] j7.Mw
def j7.sN:j7.row.enc=j7.cells/\j7.row.mH=j7.of []/\j7.row.sz=2/\j7.kv.enc=j7.cells/\j7.kv.mH=j7.of:=⟨rfl,rfl,rfl,rfl,rfl⟩
attribute [go_sem] j7.mY j7.l9 j7.lU j7.sN
def j7.Sp:(∀(y0:kj)(y1:Int),(j7.mk y0 y1).name=y0)/\(∀(y0:kj)(y1:Int),(j7.mk y0 y1).plus=y1):=⟨fun _ _=>rfl,fun _ _=>rfl⟩
attribute [go_sem] j7.Sp
def j7.nbs:(∀(n:Nat)(x:j7),Go.Abs.uc n x.cells=True)/\∀(n:Nat)(xs:List j7),Go.Abs.Jv n (mp j7.cells xs)=True:=⟨fun n x=>eq_true (j7.nb n x),fun n xs=>eq_true (my (j7.nb n) xs)⟩
def j7.ag5:(∀(Y:Nat->Nat)(x:j7),s6 Y x.cells=x.cells)/\∀(Y:Nat->Nat)(xs:List j7),GB Y (mp j7.cells xs)=mp j7.cells xs:=⟨fun Y x=>q6 Y _ (j7.nb 0 x),fun Y xs=>vz Y _ (my (j7.nb 0) xs)⟩
def j7.reads:
 (∀x:j7,cellsOf (.agg x.cells)=some x.cells)/\
 (∀x:j7,kr true 2 x.cells=some (.agg x.cells))/\
 (∀x:j7,kr false 1 x.cells=some (.str (sb x.name)))/\
 (∀x:j7,kr false 1 (x.cells.drop 1)=some (.int .i64 x.plus)):=
 ⟨fun x=>by simp only[cellsOf,j7.lI,jM],
  fun x=>ql (j7.length x),
  fun x=>by rw[j7.jV];rfl,
  fun x=>by rw[j7.jV];rfl⟩
def j7.as8(x:j7)(o:Nat)(xs:List AV):vq x.cells o xs=vq [.str (sb x.name),.int .i64 x.plus] o xs:=by rw[j7.jV]
attribute [go_sem] j7.nbs j7.ag5 j7.reads j7.length j7.lI
attribute [go_sem low] j7.as8
structure jX where
 alL:Bool
 z8:List j7
def jX.cells(x:jX):List AV:=[.bool x.alL,.kF false 2 (mp j7.cells x.z8)]
theorem jX.kN(x:jX):x.cells=[.bool x.alL,.kF false 2 (mp j7.cells x.z8)]:=rfl
theorem jX.jV(x:jX):x.cells=[.bool x.alL,.kF false 2 (mp j7.cells x.z8)]:=rfl
attribute [irreducible] jX.cells
theorem jX.length(x:jX):x.cells.length=2:=by rw[jX.jV];rfl
def jX.lI(x:jX):x.cells.all AV.lI=true:=by rw[jX.jV];rfl
theorem jX.nb(n:Nat)(x:jX):uc n x.cells:=by
 rw[jX.kN];exact⟨trivial,my (j7.nb n) _,trivial⟩
def jX.of(H:List j5):List AV->Option jX
 |[c0,c1]=>(dB c0).bind fun x0=>(dL j7.row H c1).bind fun x1=>some (.mk x0 x1)
 |_=>none
def jX.mY{c0 c1:AV}:jX.of H [c0,c1]=(dB c0).bind fun x0=>(dL j7.row H c1).bind fun x1=>some (.mk x0 x1):=rfl
def jX.kR(H:List j5)(x:jX):jX.of H [.bool x.alL,.kF false 2 (mp j7.cells x.z8)]=some x:=by
 simp only[jX.mY,wz,tw,BD,nO,Af,beq_self_eq_true,fy,jE,dL,j7.lU,j7.row]
 try (cases x;rfl)
theorem jX.l9(H:List j5)(x:jX):jX.of H x.cells=some x:=by rw[jX.jV];exact jX.kR H x
def jX.nI{x:jX}(h:jX.of H cs=some x):lO H n cs x.cells:=by
 unfold jX.of at h;split at h
 ·simp only[fp,fq]at h;obtain⟨x0,h0,x1,h1,rfl⟩:=h;rw[jX.kN];exact(lO.cons (ap4 h0) (lO.cons (wh h1) lO.nil))
 ·cases h
def jX.kv:QU jX:=⟨jX.cells,jX.of,fun _ _ _ _ h=>jX.nI h,jX.nb⟩
def jX.row:Row jX:=⟨jX.cells,jX.of [],2,fun _ _ h=>(jX.nI (n:=0) h).nG,jX.nb⟩
def jX.lU(xs:List jX):qQ (jX.of []) (mp jX.cells xs)=some xs:=yz (jX.l9 []) xs
def jX.Mw(xs:List jX)(i:Nat)(r:List AV):qQ (jX.of []) ((mp jX.cells xs).set i r)=bif decide (i<xs.length)then(jX.of [] r).bind fun y=>some (xs.set i y)else some xs:=Go.Abs.Mw (jX.l9 []) xs i r
attribute [go_sem low] jX.Mw
def jX.sN:jX.row.enc=jX.cells/\jX.row.mH=jX.of []/\jX.row.sz=2/\jX.kv.enc=jX.cells/\jX.kv.mH=jX.of:=⟨rfl,rfl,rfl,rfl,rfl⟩
attribute [go_sem] jX.mY jX.l9 jX.lU jX.sN
def jX.Sp:(∀(y0:Bool)(y1:List j7),(jX.mk y0 y1).alL=y0)/\(∀(y0:Bool)(y1:List j7),(jX.mk y0 y1).z8=y1):=⟨fun _ _=>rfl,fun _ _=>rfl⟩
attribute [go_sem] jX.Sp
def jX.nbs:(∀(n:Nat)(x:jX),Go.Abs.uc n x.cells=True)/\∀(n:Nat)(xs:List jX),Go.Abs.Jv n (mp jX.cells xs)=True:=⟨fun n x=>eq_true (jX.nb n x),fun n xs=>eq_true (my (jX.nb n) xs)⟩
def jX.ag5:(∀(Y:Nat->Nat)(x:jX),s6 Y x.cells=x.cells)/\∀(Y:Nat->Nat)(xs:List jX),GB Y (mp jX.cells xs)=mp jX.cells xs:=⟨fun Y x=>q6 Y _ (jX.nb 0 x),fun Y xs=>vz Y _ (my (jX.nb 0) xs)⟩
def jX.vw(H:List j5)(x:jX):vwL H x.cells=some (x.cells,[]):=Ag H _ (jX.nb 0 x)
attribute [go_sem] jX.vw
def jX.reads:
 (∀x:jX,cellsOf (.agg x.cells)=some x.cells)/\
 (∀x:jX,kr true 2 x.cells=some (.agg x.cells))/\
 (∀x:jX,kr false 1 x.cells=some (.bool x.alL))/\
 (∀x:jX,kr false 1 (x.cells.drop 1)=some (.kF false 2 (mp j7.cells x.z8))):=
 ⟨fun x=>by simp only[cellsOf,jX.lI,jM],
  fun x=>ql (jX.length x),
  fun x=>by rw[jX.jV];rfl,
  fun x=>by rw[jX.jV];rfl⟩
def jX.as8(x:jX)(o:Nat)(xs:List AV):vq x.cells o xs=vq [.bool x.alL,.kF false 2 (mp j7.cells x.z8)] o xs:=by rw[jX.jV]
attribute [go_sem] jX.nbs jX.ag5 jX.reads jX.length jX.lI
attribute [go_sem low] jX.as8
inductive Syntax where
 |mk (kind:Int) (text:kj) (num:Int) (mA:List kj) (kg:List jX) (kI:List Syntax) (OP:Int) (to:Int)
def Syntax.kind:Syntax->Int|.mk x _ _ _ _ _ _ _=>x
def Syntax.text:Syntax->kj|.mk _ x _ _ _ _ _ _=>x
def Syntax.num:Syntax->Int|.mk _ _ x _ _ _ _ _=>x
def Syntax.mA:Syntax->List kj|.mk _ _ _ x _ _ _ _=>x
def Syntax.kg:Syntax->List jX|.mk _ _ _ _ x _ _ _=>x
def Syntax.kI:Syntax->List Syntax|.mk _ _ _ _ _ x _ _=>x
def Syntax.OP:Syntax->Int|.mk _ _ _ _ _ _ x _=>x
def Syntax.to:Syntax->Int|.mk _ _ _ _ _ _ _ x=>x
mutual
def Syntax.cells:Syntax->List AV
 |.mk kind text num mA kg kI OP to=>[.int .i64 kind,.str (sb text),.int .i64 num,.kF false 1 (mp kX mA),.kF false 2 (mp jX.cells kg),.kF false 8 (Syntax.Mx kI),.int .i64 OP,.int .i64 to]
def Syntax.Mx:List Syntax->List (List AV)
 |[]=>[]
 |t::ts=>t.cells::Syntax.Mx ts
end
theorem Syntax.C2:∀ts:List Syntax,Syntax.Mx ts=mp Syntax.cells ts
 |[]=>by rw[p8];rfl
 |t::ts=>by rw[Syntax.Mx,Syntax.C2 ts,p8,p8];rfl
theorem Syntax.kN(x:Syntax):x.cells=[.int .i64 x.kind,.str (sb x.text),.int .i64 x.num,.kF false 1 (mp kX x.mA),.kF false 2 (mp jX.cells x.kg),.kF false 8 (mp Syntax.cells x.kI),.int .i64 x.OP,.int .i64 x.to]:=by
 cases x;simp only[Syntax.cells,Syntax.C2];rfl
theorem Syntax.jV(x:Syntax):x.cells=[.int .i64 x.kind,.str (sb x.text),.int .i64 x.num,.kF false 1 (mp kX x.mA),.kF false 2 (mp jX.cells x.kg),.kF false 8 (mp Syntax.cells x.kI),.int .i64 x.OP,.int .i64 x.to]:=by
 cases x;simp only[Syntax.cells,Syntax.C2,fB,fC,fD];rfl
attribute [irreducible] Syntax.cells
theorem Syntax.length(x:Syntax):x.cells.length=8:=by rw[Syntax.jV];rfl
def Syntax.lI(x:Syntax):x.cells.all AV.lI=true:=by rw[Syntax.jV];rfl
mutual
theorem Syntax.nb(n:Nat):∀x:Syntax,uc n x.cells
 | .mk kind text num mA kg kI OP to=>by
   rw[Syntax.kN];exact⟨trivial,trivial,trivial,my (wA n) _,my (jX.nb n) _,Syntax.Jv n kI,trivial,trivial,trivial⟩
theorem Syntax.Jv(n:Nat):∀ts:List Syntax,Jv n (mp Syntax.cells ts)
 |[]=>by rw[p8];trivial
 |t::ts=>by have:=Syntax.Jv n ts;rw[p8]at this ⊢;exact⟨Syntax.nb n t,this⟩
end
mutual
def Syntax.ZB:List AV->Option Syntax
 |[c0,c1,c2,c3,c4,.kF _ z5 r5,c6,c7]=>(dI .i64 c0).bind fun x0=>(dS c1).bind fun x1=>(dI .i64 c2).bind fun x2=>(dL kW [] c3).bind fun x3=>(dL jX.row [] c4).bind fun x4=>(bif Af z5 8 r5 then Syntax.ofR r5 else none).bind fun x5=>(dI .i64 c6).bind fun x6=>(dI .i64 c7).bind fun x7=>some (.mk x0 x1 x2 x3 x4 x5 x6 x7)
 |_=>none
def Syntax.ofR:List (List AV)->Option (List Syntax)
 |[]=>some []
 |r::rs=>(Syntax.ZB r).bind fun x=>(Syntax.ofR rs).bind fun xs=>some (x::xs)
end
def Syntax.as9:∀rs,Syntax.ofR rs=qQ Syntax.ZB rs
 |[]=>by simp only[Syntax.ofR,qQ]
 |r::rs=>by simp only[Syntax.ofR,qQ,Syntax.as9 rs]
mutual
def Syntax.yC:∀x:Syntax,Syntax.ZB x.cells=some x
 | .mk kind text num mA kg kI OP to=>by
   rw[Syntax.jV];show Syntax.ZB [.int .i64 kind,.str (sb text),.int .i64 num,.kF false 1 (mp kX mA),.kF false 2 (mp jX.cells kg),.kF false 8 (mp Syntax.cells kI),.int .i64 OP,.int .i64 to]=_;simp only[Syntax.ZB,wz,tw,BD,nO,Af,beq_self_eq_true,fy,jE,dL,Syntax.Lm kI,jX.lU,jX.row,ye,Zu]
def Syntax.Lm:∀xs:List Syntax,Syntax.ofR (mp Syntax.cells xs)=some xs
 |[]=>by rw[p8];simp only[fF,Syntax.ofR]
 |x::xs=>by have h:=Syntax.Lm xs;rw[p8]at h ⊢;simp only[fE,Syntax.ofR,Syntax.yC x,h,nO]
end
mutual
def Syntax.VY:∀(x:Syntax)(r:List AV),Syntax.ZB r=some x->vH r x.cells
 | .mk kind text num mA kg kI OP to,r,h=>by
   unfold Syntax.ZB at h;split at h
   ·simp only[fp,fq,Syntax.mk.injEq]at h;obtain⟨x0,h0,x1,h1,x2,h2,x3,h3,x4,h4,x5,h5,x6,h6,x7,h7,e0,e1,e2,e3,e4,e5,e6,e7⟩:=h;rw[e0]at h0;rw[e1]at h1;rw[e2]at h2;rw[e3]at h3;rw[e4]at h4;rw[e5]at h5;rw[e6]at h6;rw[e7]at h7;rw[Syntax.kN];exact(vH.cons ((ut (H:=[]) (n:=0) h0).nG) (vH.cons ((QS (H:=[]) (n:=0) h1).nG) (vH.cons ((ut (H:=[]) (n:=0) h2).nG) (vH.cons ((wh (H:=[]) (n:=0) h3).nG) (vH.cons ((wh (H:=[]) (n:=0) h4).nG) (vH.cons (aDN (Syntax.ag6 kI _) h5) (vH.cons ((ut (H:=[]) (n:=0) h6).nG) (vH.cons ((ut (H:=[]) (n:=0) h7).nG) vH.nil))))))))
   ·cases h
def Syntax.ag6:∀(xs:List Syntax)(rs:List (List AV)),Syntax.ofR rs=some xs->Sn rs (mp Syntax.cells xs)
 |[],rs,h=>by
  cases rs with
  |nil=>rw[p8];exact Sn.nil
  |cons r rs=>
   simp only[Syntax.ofR,fp,fq]at h;obtain⟨_,_,_,_,h⟩:=h;cases h
 |x::xs,rs,h=>by
  cases rs with
  |nil=>simp only[Syntax.ofR,fq]at h;cases h
  |cons r rs=>
   simp only[Syntax.ofR,fp,fq,List.cons.injEq]at h;obtain⟨_,hx,_,hys,rfl,rfl⟩:=h;have h2:=Syntax.ag6 _ rs hys;rw[p8]at h2 ⊢;exact Sn.cons (Syntax.VY _ r hx).aFH h2
end
def Syntax.row:Row Syntax:=⟨Syntax.cells,Syntax.ZB,8,fun r x h=>Syntax.VY x r h,Syntax.nb⟩
def Syntax.lU(xs:List Syntax):qQ Syntax.ZB (mp Syntax.cells xs)=some xs:=yz Syntax.yC xs
def Syntax.of(H:List j5):List AV->Option Syntax
 |[c0,c1,c2,c3,c4,c5,c6,c7]=>(dI .i64 c0).bind fun x0=>(dS c1).bind fun x1=>(dI .i64 c2).bind fun x2=>(dL kW H c3).bind fun x3=>(dL jX.row H c4).bind fun x4=>(dL Syntax.row H c5).bind fun x5=>(dI .i64 c6).bind fun x6=>(dI .i64 c7).bind fun x7=>some (.mk x0 x1 x2 x3 x4 x5 x6 x7)
 |_=>none
def Syntax.mY {c0 c1 c2 c3 c4 c5 c6:AV}:Syntax.of H [c0,c1,c2,c3,c4,c5,c6,c7]=(dI .i64 c0).bind fun x0=>(dS c1).bind fun x1=>(dI .i64 c2).bind fun x2=>(dL kW H c3).bind fun x3=>(dL jX.row H c4).bind fun x4=>(dL Syntax.row H c5).bind fun x5=>(dI .i64 c6).bind fun x6=>(dI .i64 c7).bind fun x7=>some (.mk x0 x1 x2 x3 x4 x5 x6 x7):=rfl
def Syntax.kR(H:List j5)(x:Syntax):Syntax.of H [.int .i64 x.kind,.str (sb x.text),.int .i64 x.num,.kF false 1 (mp kX x.mA),.kF false 2 (mp jX.cells x.kg),.kF false 8 (mp Syntax.cells x.kI),.int .i64 x.OP,.int .i64 x.to]=some x:=by
 simp only[Syntax.mY,wz,tw,BD,nO,Af,beq_self_eq_true,fy,jE,dL,jX.lU,jX.row,Syntax.lU,Syntax.row,ye,Zu]
 try (cases x;rfl)
theorem Syntax.l9(H:List j5)(x:Syntax):Syntax.of H x.cells=some x:=by rw[Syntax.jV];exact Syntax.kR H x
def Syntax.nI{x:Syntax}(h:Syntax.of H cs=some x):lO H n cs x.cells:=by
 unfold Syntax.of at h;split at h
 ·simp only[fp,fq]at h;obtain⟨x0,h0,x1,h1,x2,h2,x3,h3,x4,h4,x5,h5,x6,h6,x7,h7,rfl⟩:=h;rw[Syntax.kN];exact(lO.cons (ut h0) (lO.cons (QS h1) (lO.cons (ut h2) (lO.cons (wh h3) (lO.cons (wh h4) (lO.cons (wh h5) (lO.cons (ut h6) (lO.cons (ut h7) lO.nil))))))))
 ·cases h
def Syntax.kv:QU Syntax:=⟨Syntax.cells,Syntax.of,fun _ _ _ _ h=>Syntax.nI h,Syntax.nb⟩
def Syntax.sN:Syntax.row.enc=Syntax.cells/\Syntax.row.mH=Syntax.ZB/\Syntax.row.sz=8/\Syntax.kv.enc=Syntax.cells/\Syntax.kv.mH=Syntax.of:=⟨rfl,rfl,rfl,rfl,rfl⟩
def Syntax.eta(x:Syntax):Syntax.mk x.kind x.text x.num x.mA x.kg x.kI x.OP x.to=x:=by cases x;rfl
attribute [go_sem] Syntax.mY Syntax.l9 Syntax.lU Syntax.sN Syntax.eta Syntax.ZB Syntax.yC Syntax.as9
def Syntax.Sp:(∀(y0:Int)(y1:kj)(y2:Int)(y3:List kj)(y4:List jX)(y5:List Syntax)(y6:Int)(y7:Int),(Syntax.mk y0 y1 y2 y3 y4 y5 y6 y7).kind=y0)/\(∀(y0:Int)(y1:kj)(y2:Int)(y3:List kj)(y4:List jX)(y5:List Syntax)(y6:Int)(y7:Int),(Syntax.mk y0 y1 y2 y3 y4 y5 y6 y7).text=y1)/\(∀(y0:Int)(y1:kj)(y2:Int)(y3:List kj)(y4:List jX)(y5:List Syntax)(y6:Int)(y7:Int),(Syntax.mk y0 y1 y2 y3 y4 y5 y6 y7).num=y2)/\(∀(y0:Int)(y1:kj)(y2:Int)(y3:List kj)(y4:List jX)(y5:List Syntax)(y6:Int)(y7:Int),(Syntax.mk y0 y1 y2 y3 y4 y5 y6 y7).mA=y3)/\(∀(y0:Int)(y1:kj)(y2:Int)(y3:List kj)(y4:List jX)(y5:List Syntax)(y6:Int)(y7:Int),(Syntax.mk y0 y1 y2 y3 y4 y5 y6 y7).kg=y4)/\(∀(y0:Int)(y1:kj)(y2:Int)(y3:List kj)(y4:List jX)(y5:List Syntax)(y6:Int)(y7:Int),(Syntax.mk y0 y1 y2 y3 y4 y5 y6 y7).kI=y5)/\(∀(y0:Int)(y1:kj)(y2:Int)(y3:List kj)(y4:List jX)(y5:List Syntax)(y6:Int)(y7:Int),(Syntax.mk y0 y1 y2 y3 y4 y5 y6 y7).OP=y6)/\(∀(y0:Int)(y1:kj)(y2:Int)(y3:List kj)(y4:List jX)(y5:List Syntax)(y6:Int)(y7:Int),(Syntax.mk y0 y1 y2 y3 y4 y5 y6 y7).to=y7):=⟨fun _ _ _ _ _ _ _ _=>rfl,fun _ _ _ _ _ _ _ _=>rfl,fun _ _ _ _ _ _ _ _=>rfl,fun _ _ _ _ _ _ _ _=>rfl,fun _ _ _ _ _ _ _ _=>rfl,fun _ _ _ _ _ _ _ _=>rfl,fun _ _ _ _ _ _ _ _=>rfl,fun _ _ _ _ _ _ _ _=>rfl⟩
attribute [go_sem] Syntax.Sp
def Syntax.nbs:(∀(n:Nat)(x:Syntax),Go.Abs.uc n x.cells=True)/\∀(n:Nat)(xs:List Syntax),Go.Abs.Jv n (mp Syntax.cells xs)=True:=⟨fun n x=>eq_true (Syntax.nb n x),fun n xs=>eq_true (my (Syntax.nb n) xs)⟩
def Syntax.ag5:(∀(Y:Nat->Nat)(x:Syntax),s6 Y x.cells=x.cells)/\∀(Y:Nat->Nat)(xs:List Syntax),GB Y (mp Syntax.cells xs)=mp Syntax.cells xs:=⟨fun Y x=>q6 Y _ (Syntax.nb 0 x),fun Y xs=>vz Y _ (my (Syntax.nb 0) xs)⟩
def Syntax.vw(H:List j5)(x:Syntax):vwL H x.cells=some (x.cells,[]):=Ag H _ (Syntax.nb 0 x)
attribute [go_sem] Syntax.vw
theorem Syntax.frz(low:Nat)(H:List j5)(x:Syntax):aqC low H x.cells=x.cells:=KM low H _ (Syntax.nb 0 x)
def Syntax.rpv(l:Nat)(ds:List AV)(x:Syntax):x.cells.map (rpV l ds)=x.cells:=VS _ (Syntax.nb 0 x)
attribute [go_sem] Syntax.rpv
def Syntax.tk:(∀x:Syntax,List.take 8 x.cells=x.cells)/\∀x:Syntax,List.drop 8 x.cells=[]:=⟨fun x=>by rw[Syntax.jV];rfl,fun x=>by rw[Syntax.jV];rfl⟩
attribute [go_sem] Syntax.tk
def Syntax.reads:
 (∀x:Syntax,cellsOf (.agg x.cells)=some x.cells)/\
 (∀x:Syntax,kr true 8 x.cells=some (.agg x.cells))/\
 (∀x:Syntax,kr false 1 x.cells=some (.int .i64 x.kind))/\
 (∀x:Syntax,kr false 1 (x.cells.drop 1)=some (.str (sb x.text)))/\
 (∀x:Syntax,kr false 1 (x.cells.drop 2)=some (.int .i64 x.num))/\
 (∀x:Syntax,kr false 1 (x.cells.drop 3)=some (.kF false 1 (mp kX x.mA)))/\
 (∀x:Syntax,kr false 1 (x.cells.drop 4)=some (.kF false 2 (mp jX.cells x.kg)))/\
 (∀x:Syntax,kr false 1 (x.cells.drop 5)=some (.kF false 8 (mp Syntax.cells x.kI)))/\
 (∀x:Syntax,kr false 1 (x.cells.drop 6)=some (.int .i64 x.OP))/\
 (∀x:Syntax,kr false 1 (x.cells.drop 7)=some (.int .i64 x.to)):=
 ⟨fun x=>by simp only[cellsOf,Syntax.lI,jM],
  fun x=>ql (Syntax.length x),
  fun x=>by rw[Syntax.jV];rfl,
  fun x=>by rw[Syntax.jV];rfl,
  fun x=>by rw[Syntax.jV];rfl,
  fun x=>by rw[Syntax.jV];rfl,
  fun x=>by rw[Syntax.jV];rfl,
  fun x=>by rw[Syntax.jV];rfl,
  fun x=>by rw[Syntax.jV];rfl,
  fun x=>by rw[Syntax.jV];rfl⟩
def Syntax.as8(x:Syntax)(o:Nat)(xs:List AV):vq x.cells o xs=vq [.int .i64 x.kind,.str (sb x.text),.int .i64 x.num,.kF false 1 (mp kX x.mA),.kF false 2 (mp jX.cells x.kg),.kF false 8 (mp Syntax.cells x.kI),.int .i64 x.OP,.int .i64 x.to] o xs:=by rw[Syntax.jV]
def Syntax.cns(x:Syntax)(c:AV):c::x.cells=[c,.int .i64 x.kind,.str (sb x.text),.int .i64 x.num,.kF false 1 (mp kX x.mA),.kF false 2 (mp jX.cells x.kg),.kF false 8 (mp Syntax.cells x.kI),.int .i64 x.OP,.int .i64 x.to]:=by rw[Syntax.jV]
attribute [go_sem] Syntax.cns Syntax.nbs Syntax.ag5 Syntax.frz Syntax.reads Syntax.length Syntax.lI
attribute [go_sem low] Syntax.as8
structure kp where
 index:Int
 plus:Int
def kp.cells(x:kp):List AV:=[.int .i64 x.index,.int .i64 x.plus]
theorem kp.kN(x:kp):x.cells=[.int .i64 x.index,.int .i64 x.plus]:=rfl
theorem kp.jV(x:kp):x.cells=[.int .i64 x.index,.int .i64 x.plus]:=rfl
attribute [irreducible] kp.cells
theorem kp.length(x:kp):x.cells.length=2:=by rw[kp.jV];rfl
def kp.lI(x:kp):x.cells.all AV.lI=true:=by rw[kp.jV];rfl
theorem kp.nb(n:Nat)(x:kp):uc n x.cells:=by
 rw[kp.kN];exact⟨trivial,trivial,trivial⟩
def kp.of(H:List j5):List AV->Option kp
 |[c0,c1]=>(dI .i64 c0).bind fun x0=>(dI .i64 c1).bind fun x1=>some (.mk x0 x1)
 |_=>none
def kp.mY{c0 c1:AV}:kp.of H [c0,c1]=(dI .i64 c0).bind fun x0=>(dI .i64 c1).bind fun x1=>some (.mk x0 x1):=rfl
def kp.kR(H:List j5)(x:kp):kp.of H [.int .i64 x.index,.int .i64 x.plus]=some x:=by
 simp only[kp.mY,wz,tw,BD,nO,Af,beq_self_eq_true,fy,jE,dL]
 try (cases x;rfl)
theorem kp.l9(H:List j5)(x:kp):kp.of H x.cells=some x:=by rw[kp.jV];exact kp.kR H x
def kp.nI{x:kp}(h:kp.of H cs=some x):lO H n cs x.cells:=by
 unfold kp.of at h;split at h
 ·simp only[fp,fq]at h;obtain⟨x0,h0,x1,h1,rfl⟩:=h;rw[kp.kN];exact(lO.cons (ut h0) (lO.cons (ut h1) lO.nil))
 ·cases h
def kp.kv:QU kp:=⟨kp.cells,kp.of,fun _ _ _ _ h=>kp.nI h,kp.nb⟩
def kp.row:Row kp:=⟨kp.cells,kp.of [],2,fun _ _ h=>(kp.nI (n:=0) h).nG,kp.nb⟩
def kp.lU(xs:List kp):qQ (kp.of []) (mp kp.cells xs)=some xs:=yz (kp.l9 []) xs
def kp.sN:kp.row.enc=kp.cells/\kp.row.mH=kp.of []/\kp.row.sz=2/\kp.kv.enc=kp.cells/\kp.kv.mH=kp.of:=⟨rfl,rfl,rfl,rfl,rfl⟩
attribute [go_sem] kp.mY kp.l9 kp.lU kp.sN
def kp.Sp:(∀(y0:Int)(y1:Int),(kp.mk y0 y1).index=y0)/\(∀(y0:Int)(y1:Int),(kp.mk y0 y1).plus=y1):=⟨fun _ _=>rfl,fun _ _=>rfl⟩
attribute [go_sem] kp.Sp
def kp.nbs:(∀(n:Nat)(x:kp),Go.Abs.uc n x.cells=True)/\∀(n:Nat)(xs:List kp),Go.Abs.Jv n (mp kp.cells xs)=True:=⟨fun n x=>eq_true (kp.nb n x),fun n xs=>eq_true (my (kp.nb n) xs)⟩
def kp.reads:
 (∀x:kp,cellsOf (.agg x.cells)=some x.cells)/\
 (∀x:kp,kr true 2 x.cells=some (.agg x.cells))/\
 (∀x:kp,kr false 1 x.cells=some (.int .i64 x.index))/\
 (∀x:kp,kr false 1 (x.cells.drop 1)=some (.int .i64 x.plus)):=
 ⟨fun x=>by simp only[cellsOf,kp.lI,jM],
  fun x=>ql (kp.length x),
  fun x=>by rw[kp.jV];rfl,
  fun x=>by rw[kp.jV];rfl⟩
attribute [go_sem] kp.nbs kp.reads kp.length kp.lI
structure kA where
 const:Int
 vars:List kp
def kA.cells(x:kA):List AV:=[.int .i64 x.const,.kF false 2 (mp kp.cells x.vars)]
theorem kA.kN(x:kA):x.cells=[.int .i64 x.const,.kF false 2 (mp kp.cells x.vars)]:=rfl
theorem kA.jV(x:kA):x.cells=[.int .i64 x.const,.kF false 2 (mp kp.cells x.vars)]:=rfl
attribute [irreducible] kA.cells
theorem kA.length(x:kA):x.cells.length=2:=by rw[kA.jV];rfl
def kA.lI(x:kA):x.cells.all AV.lI=true:=by rw[kA.jV];rfl
theorem kA.nb(n:Nat)(x:kA):uc n x.cells:=by
 rw[kA.kN];exact⟨trivial,my (kp.nb n) _,trivial⟩
def kA.of(H:List j5):List AV->Option kA
 |[c0,c1]=>(dI .i64 c0).bind fun x0=>(dL kp.row H c1).bind fun x1=>some (.mk x0 x1)
 |_=>none
def kA.mY{c0 c1:AV}:kA.of H [c0,c1]=(dI .i64 c0).bind fun x0=>(dL kp.row H c1).bind fun x1=>some (.mk x0 x1):=rfl
def kA.kR(H:List j5)(x:kA):kA.of H [.int .i64 x.const,.kF false 2 (mp kp.cells x.vars)]=some x:=by
 simp only[kA.mY,wz,tw,BD,nO,Af,beq_self_eq_true,fy,jE,dL,kp.lU,kp.row]
 try (cases x;rfl)
theorem kA.l9(H:List j5)(x:kA):kA.of H x.cells=some x:=by rw[kA.jV];exact kA.kR H x
def kA.nI{x:kA}(h:kA.of H cs=some x):lO H n cs x.cells:=by
 unfold kA.of at h;split at h
 ·simp only[fp,fq]at h;obtain⟨x0,h0,x1,h1,rfl⟩:=h;rw[kA.kN];exact(lO.cons (ut h0) (lO.cons (wh h1) lO.nil))
 ·cases h
def kA.kv:QU kA:=⟨kA.cells,kA.of,fun _ _ _ _ h=>kA.nI h,kA.nb⟩
def kA.row:Row kA:=⟨kA.cells,kA.of [],2,fun _ _ h=>(kA.nI (n:=0) h).nG,kA.nb⟩
def kA.lU(xs:List kA):qQ (kA.of []) (mp kA.cells xs)=some xs:=yz (kA.l9 []) xs
def kA.sN:kA.row.enc=kA.cells/\kA.row.mH=kA.of []/\kA.row.sz=2/\kA.kv.enc=kA.cells/\kA.kv.mH=kA.of:=⟨rfl,rfl,rfl,rfl,rfl⟩
attribute [go_sem] kA.mY kA.l9 kA.lU kA.sN
def kA.Sp:(∀(y0:Int)(y1:List kp),(kA.mk y0 y1).const=y0)/\(∀(y0:Int)(y1:List kp),(kA.mk y0 y1).vars=y1):=⟨fun _ _=>rfl,fun _ _=>rfl⟩
attribute [go_sem] kA.Sp
def kA.nbs:(∀(n:Nat)(x:kA),Go.Abs.uc n x.cells=True)/\∀(n:Nat)(xs:List kA),Go.Abs.Jv n (mp kA.cells xs)=True:=⟨fun n x=>eq_true (kA.nb n x),fun n xs=>eq_true (my (kA.nb n) xs)⟩
def kA.vw(H:List j5)(x:kA):vwL H x.cells=some (x.cells,[]):=Ag H _ (kA.nb 0 x)
attribute [go_sem] kA.vw
def kA.reads:
 (∀x:kA,cellsOf (.agg x.cells)=some x.cells)/\
 (∀x:kA,kr true 2 x.cells=some (.agg x.cells))/\
 (∀x:kA,kr false 1 x.cells=some (.int .i64 x.const))/\
 (∀x:kA,kr false 1 (x.cells.drop 1)=some (.kF false 2 (mp kp.cells x.vars))):=
 ⟨fun x=>by simp only[cellsOf,kA.lI,jM],
  fun x=>ql (kA.length x),
  fun x=>by rw[kA.jV];rfl,
  fun x=>by rw[kA.jV];rfl⟩
attribute [go_sem] kA.nbs kA.reads kA.length kA.lI
inductive jW where
 |mk (kind:Int) (index:Int) (name:kj) (kg:List kA) (kI:List jW)
def jW.kind:jW->Int|.mk x _ _ _ _=>x
def jW.index:jW->Int|.mk _ x _ _ _=>x
def jW.name:jW->kj|.mk _ _ x _ _=>x
def jW.kg:jW->List kA|.mk _ _ _ x _=>x
def jW.kI:jW->List jW|.mk _ _ _ _ x=>x
mutual
def jW.cells:jW->List AV
 |.mk kind index name kg kI=>[.int .i64 kind,.int .i64 index,.str (sb name),.kF false 2 (mp kA.cells kg),.kF false 5 (jW.Mx kI)]
def jW.Mx:List jW->List (List AV)
 |[]=>[]
 |t::ts=>t.cells::jW.Mx ts
end
theorem jW.C2:∀ts:List jW,jW.Mx ts=mp jW.cells ts
 |[]=>by rw[p8];rfl
 |t::ts=>by rw[jW.Mx,jW.C2 ts,p8,p8];rfl
theorem jW.kN(x:jW):x.cells=[.int .i64 x.kind,.int .i64 x.index,.str (sb x.name),.kF false 2 (mp kA.cells x.kg),.kF false 5 (mp jW.cells x.kI)]:=by
 cases x;simp only[jW.cells,jW.C2];rfl
theorem jW.jV(x:jW):x.cells=[.int .i64 x.kind,.int .i64 x.index,.str (sb x.name),.kF false 2 (mp kA.cells x.kg),.kF false 5 (mp jW.cells x.kI)]:=by
 cases x;simp only[jW.cells,jW.C2,fB,fC,fD];rfl
attribute [irreducible] jW.cells
theorem jW.length(x:jW):x.cells.length=5:=by rw[jW.jV];rfl
def jW.lI(x:jW):x.cells.all AV.lI=true:=by rw[jW.jV];rfl
mutual
theorem jW.nb(n:Nat):∀x:jW,uc n x.cells
 | .mk kind index name kg kI=>by
   rw[jW.kN];exact⟨trivial,trivial,trivial,my (kA.nb n) _,jW.Jv n kI,trivial⟩
theorem jW.Jv(n:Nat):∀ts:List jW,Jv n (mp jW.cells ts)
 |[]=>by rw[p8];trivial
 |t::ts=>by have:=jW.Jv n ts;rw[p8]at this ⊢;exact⟨jW.nb n t,this⟩
end
mutual
def jW.ZB:List AV->Option jW
 |[c0,c1,c2,c3,.kF _ z4 r4]=>(dI .i64 c0).bind fun x0=>(dI .i64 c1).bind fun x1=>(dS c2).bind fun x2=>(dL kA.row [] c3).bind fun x3=>(bif Af z4 5 r4 then jW.ofR r4 else none).bind fun x4=>some (.mk x0 x1 x2 x3 x4)
 |_=>none
def jW.ofR:List (List AV)->Option (List jW)
 |[]=>some []
 |r::rs=>(jW.ZB r).bind fun x=>(jW.ofR rs).bind fun xs=>some (x::xs)
end
def jW.as9:∀rs,jW.ofR rs=qQ jW.ZB rs
 |[]=>by simp only[jW.ofR,qQ]
 |r::rs=>by simp only[jW.ofR,qQ,jW.as9 rs]
mutual
def jW.yC:∀x:jW,jW.ZB x.cells=some x
 | .mk kind index name kg kI=>by
   rw[jW.jV];show jW.ZB [.int .i64 kind,.int .i64 index,.str (sb name),.kF false 2 (mp kA.cells kg),.kF false 5 (mp jW.cells kI)]=_;simp only[jW.ZB,wz,tw,BD,nO,Af,beq_self_eq_true,fy,jE,dL,jW.Lm kI,kA.lU,kA.row]
def jW.Lm:∀xs:List jW,jW.ofR (mp jW.cells xs)=some xs
 |[]=>by rw[p8];simp only[fF,jW.ofR]
 |x::xs=>by have h:=jW.Lm xs;rw[p8]at h ⊢;simp only[fE,jW.ofR,jW.yC x,h,nO]
end
mutual
def jW.VY:∀(x:jW)(r:List AV),jW.ZB r=some x->vH r x.cells
 | .mk kind index name kg kI,r,h=>by
   unfold jW.ZB at h;split at h
   ·simp only[fp,fq,jW.mk.injEq]at h;obtain⟨x0,h0,x1,h1,x2,h2,x3,h3,x4,h4,e0,e1,e2,e3,e4⟩:=h;rw[e0]at h0;rw[e1]at h1;rw[e2]at h2;rw[e3]at h3;rw[e4]at h4;rw[jW.kN];exact(vH.cons ((ut (H:=[]) (n:=0) h0).nG) (vH.cons ((ut (H:=[]) (n:=0) h1).nG) (vH.cons ((QS (H:=[]) (n:=0) h2).nG) (vH.cons ((wh (H:=[]) (n:=0) h3).nG) (vH.cons (aDN (jW.ag6 kI _) h4) vH.nil)))))
   ·cases h
def jW.ag6:∀(xs:List jW)(rs:List (List AV)),jW.ofR rs=some xs->Sn rs (mp jW.cells xs)
 |[],rs,h=>by
  cases rs with
  |nil=>rw[p8];exact Sn.nil
  |cons r rs=>
   simp only[jW.ofR,fp,fq]at h;obtain⟨_,_,_,_,h⟩:=h;cases h
 |x::xs,rs,h=>by
  cases rs with
  |nil=>simp only[jW.ofR,fq]at h;cases h
  |cons r rs=>
   simp only[jW.ofR,fp,fq,List.cons.injEq]at h;obtain⟨_,hx,_,hys,rfl,rfl⟩:=h;have h2:=jW.ag6 _ rs hys;rw[p8]at h2 ⊢;exact Sn.cons (jW.VY _ r hx).aFH h2
end
def jW.row:Row jW:=⟨jW.cells,jW.ZB,5,fun r x h=>jW.VY x r h,jW.nb⟩
def jW.lU(xs:List jW):qQ jW.ZB (mp jW.cells xs)=some xs:=yz jW.yC xs
def jW.of(H:List j5):List AV->Option jW
 |[c0,c1,c2,c3,c4]=>(dI .i64 c0).bind fun x0=>(dI .i64 c1).bind fun x1=>(dS c2).bind fun x2=>(dL kA.row H c3).bind fun x3=>(dL jW.row H c4).bind fun x4=>some (.mk x0 x1 x2 x3 x4)
 |_=>none
def jW.mY{c0 c1 c2 c3 c4:AV}:jW.of H [c0,c1,c2,c3,c4]=(dI .i64 c0).bind fun x0=>(dI .i64 c1).bind fun x1=>(dS c2).bind fun x2=>(dL kA.row H c3).bind fun x3=>(dL jW.row H c4).bind fun x4=>some (.mk x0 x1 x2 x3 x4):=rfl
def jW.kR(H:List j5)(x:jW):jW.of H [.int .i64 x.kind,.int .i64 x.index,.str (sb x.name),.kF false 2 (mp kA.cells x.kg),.kF false 5 (mp jW.cells x.kI)]=some x:=by
 simp only[jW.mY,wz,tw,BD,nO,Af,beq_self_eq_true,fy,jE,dL,kA.lU,kA.row,jW.lU,jW.row]
 try (cases x;rfl)
theorem jW.l9(H:List j5)(x:jW):jW.of H x.cells=some x:=by rw[jW.jV];exact jW.kR H x
def jW.nI{x:jW}(h:jW.of H cs=some x):lO H n cs x.cells:=by
 unfold jW.of at h;split at h
 ·simp only[fp,fq]at h;obtain⟨x0,h0,x1,h1,x2,h2,x3,h3,x4,h4,rfl⟩:=h;rw[jW.kN];exact(lO.cons (ut h0) (lO.cons (ut h1) (lO.cons (QS h2) (lO.cons (wh h3) (lO.cons (wh h4) lO.nil)))))
 ·cases h
def jW.kv:QU jW:=⟨jW.cells,jW.of,fun _ _ _ _ h=>jW.nI h,jW.nb⟩
def jW.sN:jW.row.enc=jW.cells/\jW.row.mH=jW.ZB/\jW.row.sz=5/\jW.kv.enc=jW.cells/\jW.kv.mH=jW.of:=⟨rfl,rfl,rfl,rfl,rfl⟩
def jW.eta(x:jW):jW.mk x.kind x.index x.name x.kg x.kI=x:=by cases x;rfl
attribute [go_sem] jW.mY jW.l9 jW.lU jW.sN jW.eta jW.ZB jW.yC jW.as9
def jW.Sp:(∀(y0:Int)(y1:Int)(y2:kj)(y3:List kA)(y4:List jW),(jW.mk y0 y1 y2 y3 y4).kind=y0)/\(∀(y0:Int)(y1:Int)(y2:kj)(y3:List kA)(y4:List jW),(jW.mk y0 y1 y2 y3 y4).index=y1)/\(∀(y0:Int)(y1:Int)(y2:kj)(y3:List kA)(y4:List jW),(jW.mk y0 y1 y2 y3 y4).name=y2)/\(∀(y0:Int)(y1:Int)(y2:kj)(y3:List kA)(y4:List jW),(jW.mk y0 y1 y2 y3 y4).kg=y3)/\(∀(y0:Int)(y1:Int)(y2:kj)(y3:List kA)(y4:List jW),(jW.mk y0 y1 y2 y3 y4).kI=y4):=⟨fun _ _ _ _ _=>rfl,fun _ _ _ _ _=>rfl,fun _ _ _ _ _=>rfl,fun _ _ _ _ _=>rfl,fun _ _ _ _ _=>rfl⟩
attribute [go_sem] jW.Sp
def jW.nbs:(∀(n:Nat)(x:jW),Go.Abs.uc n x.cells=True)/\∀(n:Nat)(xs:List jW),Go.Abs.Jv n (mp jW.cells xs)=True:=⟨fun n x=>eq_true (jW.nb n x),fun n xs=>eq_true (my (jW.nb n) xs)⟩
def jW.vw(H:List j5)(x:jW):vwL H x.cells=some (x.cells,[]):=Ag H _ (jW.nb 0 x)
attribute [go_sem] jW.vw
theorem jW.frz(low:Nat)(H:List j5)(x:jW):aqC low H x.cells=x.cells:=KM low H _ (jW.nb 0 x)
def jW.rpv(l:Nat)(ds:List AV)(x:jW):x.cells.map (rpV l ds)=x.cells:=VS _ (jW.nb 0 x)
attribute [go_sem] jW.rpv
def jW.reads:
 (∀x:jW,cellsOf (.agg x.cells)=some x.cells)/\
 (∀x:jW,kr true 5 x.cells=some (.agg x.cells))/\
 (∀x:jW,kr false 1 x.cells=some (.int .i64 x.kind))/\
 (∀x:jW,kr false 1 (x.cells.drop 1)=some (.int .i64 x.index))/\
 (∀x:jW,kr false 1 (x.cells.drop 2)=some (.str (sb x.name)))/\
 (∀x:jW,kr false 1 (x.cells.drop 3)=some (.kF false 2 (mp kA.cells x.kg)))/\
 (∀x:jW,kr false 1 (x.cells.drop 4)=some (.kF false 5 (mp jW.cells x.kI))):=
 ⟨fun x=>by simp only[cellsOf,jW.lI,jM],
  fun x=>ql (jW.length x),
  fun x=>by rw[jW.jV];rfl,
  fun x=>by rw[jW.jV];rfl,
  fun x=>by rw[jW.jV];rfl,
  fun x=>by rw[jW.jV];rfl,
  fun x=>by rw[jW.jV];rfl⟩
def jW.cns(x:jW)(c:AV):c::x.cells=[c,.int .i64 x.kind,.int .i64 x.index,.str (sb x.name),.kF false 2 (mp kA.cells x.kg),.kF false 5 (mp jW.cells x.kI)]:=by rw[jW.jV]
attribute [go_sem] jW.cns jW.nbs jW.frz jW.reads jW.length jW.lI
structure kV where
 params:Int
 type:jW
 yA:List jW
def kV.cells(x:kV):List AV:=[.int .i64 x.params]++x.type.cells++[.kF false 5 (mp jW.cells x.yA)]
theorem kV.kN(x:kV):x.cells=[.int .i64 x.params]++x.type.cells++[.kF false 5 (mp jW.cells x.yA)]:=rfl
theorem kV.jV(x:kV):x.cells=[.int .i64 x.params,.int .i64 x.type.kind,.int .i64 x.type.index,.str (sb x.type.name),.kF false 2 (mp kA.cells x.type.kg),.kF false 5 (mp jW.cells x.type.kI),.kF false 5 (mp jW.cells x.yA)]:=by
 simp only[kV.cells,jW.jV,fB,fC,fD]
attribute [irreducible] kV.cells
theorem kV.nb(n:Nat)(x:kV):uc n x.cells:=by
 rw[kV.kN];exact(pz (pz ⟨trivial,trivial⟩ (jW.nb n x.type)) ⟨my (jW.nb n) _,trivial⟩)
def kV.of(H:List j5):List AV->Option kV
 |[c0,c1,c2,c3,c4,c5,c6]=>(dI .i64 c0).bind fun x0=>(jW.of H [c1,c2,c3,c4,c5]).bind fun x1=>(dL jW.row H c6).bind fun x2=>some (.mk x0 x1 x2)
 |_=>none
def kV.mY{c0 c1 c2 c3 c4 c5 c6:AV}:kV.of H [c0,c1,c2,c3,c4,c5,c6]=(dI .i64 c0).bind fun x0=>(jW.of H [c1,c2,c3,c4,c5]).bind fun x1=>(dL jW.row H c6).bind fun x2=>some (.mk x0 x1 x2):=rfl
def kV.kR(H:List j5)(x:kV):kV.of H [.int .i64 x.params,.int .i64 x.type.kind,.int .i64 x.type.index,.str (sb x.type.name),.kF false 2 (mp kA.cells x.type.kg),.kF false 5 (mp jW.cells x.type.kI),.kF false 5 (mp jW.cells x.yA)]=some x:=by
 simp only[kV.mY,wz,tw,BD,nO,Af,beq_self_eq_true,fy,jE,dL,jW.lU,jW.row,jW.kR]
 try (cases x;rfl)
def kV.nI{x:kV}(h:kV.of H cs=some x):lO H n cs x.cells:=by
 unfold kV.of at h;split at h
 ·simp only[fp,fq]at h;obtain⟨x0,h0,x1,h1,x2,h2,rfl⟩:=h;rw[kV.kN];exact(lO.append (lO.append (lO.cons (ut h0) lO.nil) (jW.nI h1)) (lO.cons (wh h2) lO.nil))
 ·cases h
def kV.kv:QU kV:=⟨kV.cells,kV.of,fun _ _ _ _ h=>kV.nI h,kV.nb⟩
def kV.row:Row kV:=⟨kV.cells,kV.of [],7,fun _ _ h=>(kV.nI (n:=0) h).nG,kV.nb⟩
def kV.sN:kV.row.enc=kV.cells/\kV.row.mH=kV.of []/\kV.row.sz=7/\kV.kv.enc=kV.cells/\kV.kv.mH=kV.of:=⟨rfl,rfl,rfl,rfl,rfl⟩
def kV.eta(x:kV):kV.mk x.params x.type x.yA=x:=by cases x;rfl
attribute [go_sem] kV.mY kV.sN kV.eta
def kV.Sp:(∀(y0:Int)(y1:jW)(y2:List jW),(kV.mk y0 y1 y2).params=y0)/\(∀(y0:Int)(y1:jW)(y2:List jW),(kV.mk y0 y1 y2).type=y1)/\(∀(y0:Int)(y1:jW)(y2:List jW),(kV.mk y0 y1 y2).yA=y2):=⟨fun _ _ _=>rfl,fun _ _ _=>rfl,fun _ _ _=>rfl⟩
attribute [go_sem] kV.Sp
structure mI where
 name:kj
 type:jW
def mI.cells(x:mI):List AV:=[.str (sb x.name)]++x.type.cells
theorem mI.kN(x:mI):x.cells=[.str (sb x.name)]++x.type.cells:=rfl
theorem mI.jV(x:mI):x.cells=[.str (sb x.name),.int .i64 x.type.kind,.int .i64 x.type.index,.str (sb x.type.name),.kF false 2 (mp kA.cells x.type.kg),.kF false 5 (mp jW.cells x.type.kI)]:=by
 simp only[mI.cells,jW.jV,fB,fC,fD]
attribute [irreducible] mI.cells
theorem mI.length(x:mI):x.cells.length=6:=by rw[mI.jV];rfl
def mI.lI(x:mI):x.cells.all AV.lI=true:=by rw[mI.jV];rfl
theorem mI.nb(n:Nat)(x:mI):uc n x.cells:=by
 rw[mI.kN];exact(pz ⟨trivial,trivial⟩ (jW.nb n x.type))
def mI.of(H:List j5):List AV->Option mI
 |[c0,c1,c2,c3,c4,c5]=>(dS c0).bind fun x0=>(jW.of H [c1,c2,c3,c4,c5]).bind fun x1=>some (.mk x0 x1)
 |_=>none
def mI.mY{c0 c1 c2 c3 c4 c5:AV}:mI.of H [c0,c1,c2,c3,c4,c5]=(dS c0).bind fun x0=>(jW.of H [c1,c2,c3,c4,c5]).bind fun x1=>some (.mk x0 x1):=rfl
def mI.kR(H:List j5)(x:mI):mI.of H [.str (sb x.name),.int .i64 x.type.kind,.int .i64 x.type.index,.str (sb x.type.name),.kF false 2 (mp kA.cells x.type.kg),.kF false 5 (mp jW.cells x.type.kI)]=some x:=by
 simp only[mI.mY,wz,tw,BD,nO,Af,beq_self_eq_true,fy,jE,dL,jW.kR]
 try (cases x;rfl)
theorem mI.l9(H:List j5)(x:mI):mI.of H x.cells=some x:=by rw[mI.jV];exact mI.kR H x
def mI.nI{x:mI}(h:mI.of H cs=some x):lO H n cs x.cells:=by
 unfold mI.of at h;split at h
 ·simp only[fp,fq]at h;obtain⟨x0,h0,x1,h1,rfl⟩:=h;rw[mI.kN];exact(lO.append (lO.cons (QS h0) lO.nil) (jW.nI h1))
 ·cases h
def mI.kv:QU mI:=⟨mI.cells,mI.of,fun _ _ _ _ h=>mI.nI h,mI.nb⟩
def mI.row:Row mI:=⟨mI.cells,mI.of [],6,fun _ _ h=>(mI.nI (n:=0) h).nG,mI.nb⟩
def mI.lU(xs:List mI):qQ (mI.of []) (mp mI.cells xs)=some xs:=yz (mI.l9 []) xs
def mI.sN:mI.row.enc=mI.cells/\mI.row.mH=mI.of []/\mI.row.sz=6/\mI.kv.enc=mI.cells/\mI.kv.mH=mI.of:=⟨rfl,rfl,rfl,rfl,rfl⟩
attribute [go_sem] mI.mY mI.l9 mI.lU mI.sN
def mI.Sp:(∀(y0:kj)(y1:jW),(mI.mk y0 y1).name=y0)/\(∀(y0:kj)(y1:jW),(mI.mk y0 y1).type=y1):=⟨fun _ _=>rfl,fun _ _=>rfl⟩
attribute [go_sem] mI.Sp
def mI.nbs:(∀(n:Nat)(x:mI),Go.Abs.uc n x.cells=True)/\∀(n:Nat)(xs:List mI),Go.Abs.Jv n (mp mI.cells xs)=True:=⟨fun n x=>eq_true (mI.nb n x),fun n xs=>eq_true (my (mI.nb n) xs)⟩
def mI.reads:
 (∀x:mI,cellsOf (.agg x.cells)=some x.cells)/\
 (∀x:mI,kr true 6 x.cells=some (.agg x.cells))/\
 (∀x:mI,kr false 1 x.cells=some (.str (sb x.name)))/\
 (∀x:mI,kr false 1 (x.cells.drop 1)=some (.int .i64 x.type.kind))/\
 (∀x:mI,kr false 1 (x.cells.drop 2)=some (.int .i64 x.type.index))/\
 (∀x:mI,kr false 1 (x.cells.drop 3)=some (.str (sb x.type.name)))/\
 (∀x:mI,kr false 1 (x.cells.drop 4)=some (.kF false 2 (mp kA.cells x.type.kg)))/\
 (∀x:mI,kr false 1 (x.cells.drop 5)=some (.kF false 5 (mp jW.cells x.type.kI)))/\
 (∀x:mI,kr true 5 (x.cells.drop 1)=some (.agg x.type.cells)):=
 ⟨fun x=>by simp only[cellsOf,mI.lI,jM],
  fun x=>ql (mI.length x),
  fun x=>by rw[mI.jV];rfl,
  fun x=>by rw[mI.jV];rfl,
  fun x=>by rw[mI.jV];rfl,
  fun x=>by rw[mI.jV];rfl,
  fun x=>by rw[mI.jV];rfl,
  fun x=>by rw[mI.jV];rfl,
  fun x=>by rw[mI.jV];simp only[jW.jV,fx,fA];rfl⟩
attribute [go_sem] mI.nbs mI.reads mI.length mI.lI
mutual
inductive ld where
 |mk (kind:Int) (body:jW) (var:Int) (oe:List kw)
inductive kw where
 |mk (XE:kj) (za:Bool) (tA:ld)
end
def ld.kind:ld->Int|.mk x _ _ _=>x
def ld.body:ld->jW|.mk _ x _ _=>x
def ld.var:ld->Int|.mk _ _ x _=>x
def ld.oe:ld->List kw|.mk _ _ _ x=>x
def kw.XE:kw->kj|.mk x _ _=>x
def kw.za:kw->Bool|.mk _ x _=>x
def kw.tA:kw->ld|.mk _ _ x=>x
mutual
def ld.cells:ld->List AV
 |.mk kind body var oe=>[.int .i64 kind]++body.cells++[.int .i64 var,.kF false 10 (kw.Mx oe)]
def kw.cells:kw->List AV
 |.mk XE za tA=>[.str (sb XE),.bool za]++tA.cells
def kw.Mx:List kw->List (List AV)
 |[]=>[]
 |t::ts=>t.cells::kw.Mx ts
end
theorem kw.C2:∀ts:List kw,kw.Mx ts=mp kw.cells ts
 |[]=>by rw[p8];rfl
 |t::ts=>by rw[kw.Mx,kw.C2 ts,p8,p8];rfl
theorem ld.kN(x:ld):x.cells=[.int .i64 x.kind]++x.body.cells++[.int .i64 x.var,.kF false 10 (mp kw.cells x.oe)]:=by
 cases x;simp only[ld.cells,kw.C2];rfl
theorem kw.kN(x:kw):x.cells=[.str (sb x.XE),.bool x.za]++x.tA.cells:=by
 cases x;simp only[kw.cells];rfl
theorem ld.jV(x:ld):x.cells=[.int .i64 x.kind,.int .i64 x.body.kind,.int .i64 x.body.index,.str (sb x.body.name),.kF false 2 (mp kA.cells x.body.kg),.kF false 5 (mp jW.cells x.body.kI),.int .i64 x.var,.kF false 10 (mp kw.cells x.oe)]:=by
 cases x;simp only[ld.cells,jW.jV,kw.C2,fB,fC,fD];rfl
theorem kw.jV(x:kw):x.cells=[.str (sb x.XE),.bool x.za,.int .i64 x.tA.kind,.int .i64 x.tA.body.kind,.int .i64 x.tA.body.index,.str (sb x.tA.body.name),.kF false 2 (mp kA.cells x.tA.body.kg),.kF false 5 (mp jW.cells x.tA.body.kI),.int .i64 x.tA.var,.kF false 10 (mp kw.cells x.tA.oe)]:=by
 cases x;simp only[kw.cells,ld.jV,fB,fC,fD];rfl
attribute [irreducible] ld.cells
attribute [irreducible] kw.cells
theorem ld.length(x:ld):x.cells.length=8:=by rw[ld.jV];rfl
def ld.lI(x:ld):x.cells.all AV.lI=true:=by rw[ld.jV];rfl
theorem kw.length(x:kw):x.cells.length=10:=by rw[kw.jV];rfl
def kw.lI(x:kw):x.cells.all AV.lI=true:=by rw[kw.jV];rfl
mutual
theorem ld.nb(n:Nat):∀x:ld,uc n x.cells
 | .mk kind body var oe=>by
   rw[ld.kN];exact(pz (pz ⟨trivial,trivial⟩ (jW.nb n body)) ⟨trivial,kw.Jv n oe,trivial⟩)
theorem kw.nb(n:Nat):∀x:kw,uc n x.cells
 | .mk XE za tA=>by
   rw[kw.kN];exact(pz ⟨trivial,trivial,trivial⟩ (ld.nb n tA))
theorem kw.Jv(n:Nat):∀ts:List kw,Jv n (mp kw.cells ts)
 |[]=>by rw[p8];trivial
 |t::ts=>by have:=kw.Jv n ts;rw[p8]at this ⊢;exact⟨kw.nb n t,this⟩
end
mutual
def ld.ZB:List AV->Option ld
 |[c0,c1,c2,c3,c4,c5,c6,.kF _ z7 r7]=>(dI .i64 c0).bind fun x0=>(jW.of [] [c1,c2,c3,c4,c5]).bind fun x1=>(dI .i64 c6).bind fun x2=>(bif Af z7 10 r7 then kw.ofR r7 else none).bind fun x3=>some (.mk x0 x1 x2 x3)
 |_=>none
def kw.ZB:List AV->Option kw
 |c0::c1::rest=>(dS c0).bind fun x0=>(dB c1).bind fun x1=>(ld.ZB rest).bind fun x2=>some (.mk x0 x1 x2)
 |_=>none
def kw.ofR:List (List AV)->Option (List kw)
 |[]=>some []
 |r::rs=>(kw.ZB r).bind fun x=>(kw.ofR rs).bind fun xs=>some (x::xs)
end
mutual
def ld.yC:∀x:ld,ld.ZB x.cells=some x
 | .mk kind body var oe=>by
   rw[ld.jV];show ld.ZB [.int .i64 kind,.int .i64 body.kind,.int .i64 body.index,.str (sb body.name),.kF false 2 (mp kA.cells body.kg),.kF false 5 (mp jW.cells body.kI),.int .i64 var,.kF false 10 (mp kw.cells oe)]=_;simp only[ld.ZB,wz,tw,BD,nO,Af,beq_self_eq_true,fy,jE,dL,kw.Lm oe,jW.kR]
def kw.yC:∀x:kw,kw.ZB x.cells=some x
 | .mk XE za tA=>by
   have e:kw.cells (.mk XE za tA)=(AV.str (sb XE):AV)::(.bool za)::tA.cells:=by rw[kw.kN];rfl
   rw[e];simp only[kw.ZB,ld.yC tA,wz,tw,BD,nO]
def kw.Lm:∀xs:List kw,kw.ofR (mp kw.cells xs)=some xs
 |[]=>by rw[p8];simp only[fF,kw.ofR]
 |x::xs=>by have h:=kw.Lm xs;rw[p8]at h ⊢;simp only[fE,kw.ofR,kw.yC x,h,nO]
end
mutual
def ld.VY:∀(x:ld)(r:List AV),ld.ZB r=some x->vH r x.cells
 | .mk kind body var oe,r,h=>by
   unfold ld.ZB at h;split at h
   ·simp only[fp,fq,ld.mk.injEq]at h;obtain⟨x0,h0,x1,h1,x2,h2,x3,h3,e0,e1,e2,e3⟩:=h;rw[e0]at h0;rw[e1]at h1;rw[e2]at h2;rw[e3]at h3;rw[ld.kN];exact(vH.append (vH.append (vH.cons ((ut (H:=[]) (n:=0) h0).nG) vH.nil) ((jW.nI (n:=0) h1).nG)) (vH.cons ((ut (H:=[]) (n:=0) h2).nG) (vH.cons (aDN (kw.ag6 oe _) h3) vH.nil)))
   ·cases h
def kw.VY:∀(x:kw)(r:List AV),kw.ZB r=some x->vH r x.cells
 | .mk XE za tA,r,h=>by
   unfold kw.ZB at h;split at h
   ·simp only[fp,fq,kw.mk.injEq]at h;obtain⟨x0,h0,x1,h1,x2,h2,e0,e1,e2⟩:=h;rw[e0]at h0;rw[e1]at h1;rw[e2]at h2;rw[kw.kN];exact(vH.append (vH.cons ((QS (H:=[]) (n:=0) h0).nG) (vH.cons ((ap4 (H:=[]) (n:=0) h1).nG) vH.nil)) (ld.VY tA _ h2))
   ·cases h
def kw.ag6:∀(xs:List kw)(rs:List (List AV)),kw.ofR rs=some xs->Sn rs (mp kw.cells xs)
 |[],rs,h=>by
  cases rs with
  |nil=>rw[p8];exact Sn.nil
  |cons r rs=>
   simp only[kw.ofR,fp,fq]at h;obtain⟨_,_,_,_,h⟩:=h;cases h
 |x::xs,rs,h=>by
  cases rs with
  |nil=>simp only[kw.ofR,fq]at h;cases h
  |cons r rs=>
   simp only[kw.ofR,fp,fq,List.cons.injEq]at h;obtain⟨_,hx,_,hys,rfl,rfl⟩:=h;have h2:=kw.ag6 _ rs hys;rw[p8]at h2 ⊢;exact Sn.cons (kw.VY _ r hx).aFH h2
end
def ld.row:Row ld:=⟨ld.cells,ld.ZB,8,fun r x h=>ld.VY x r h,ld.nb⟩
def kw.row:Row kw:=⟨kw.cells,kw.ZB,10,fun r x h=>kw.VY x r h,kw.nb⟩
def kw.lU(xs:List kw):qQ kw.ZB (mp kw.cells xs)=some xs:=yz kw.yC xs
def ld.of(H:List j5):List AV->Option ld
 |[c0,c1,c2,c3,c4,c5,c6,c7]=>(dI .i64 c0).bind fun x0=>(jW.of H [c1,c2,c3,c4,c5]).bind fun x1=>(dI .i64 c6).bind fun x2=>(dL kw.row H c7).bind fun x3=>some (.mk x0 x1 x2 x3)
 |_=>none
def ld.mY {c0 c1 c2 c3 c4 c5 c6:AV}:ld.of H [c0,c1,c2,c3,c4,c5,c6,c7]=(dI .i64 c0).bind fun x0=>(jW.of H [c1,c2,c3,c4,c5]).bind fun x1=>(dI .i64 c6).bind fun x2=>(dL kw.row H c7).bind fun x3=>some (.mk x0 x1 x2 x3):=rfl
def ld.kR(H:List j5)(x:ld):ld.of H [.int .i64 x.kind,.int .i64 x.body.kind,.int .i64 x.body.index,.str (sb x.body.name),.kF false 2 (mp kA.cells x.body.kg),.kF false 5 (mp jW.cells x.body.kI),.int .i64 x.var,.kF false 10 (mp kw.cells x.oe)]=some x:=by
 simp only[ld.mY,wz,tw,BD,nO,Af,beq_self_eq_true,fy,jE,dL,kw.lU,kw.row,jW.kR]
 try (cases x;rfl)
theorem ld.l9(H:List j5)(x:ld):ld.of H x.cells=some x:=by rw[ld.jV];exact ld.kR H x
def ld.nI{x:ld}(h:ld.of H cs=some x):lO H n cs x.cells:=by
 unfold ld.of at h;split at h
 ·simp only[fp,fq]at h;obtain⟨x0,h0,x1,h1,x2,h2,x3,h3,rfl⟩:=h;rw[ld.kN];exact(lO.append (lO.append (lO.cons (ut h0) lO.nil) (jW.nI h1)) (lO.cons (ut h2) (lO.cons (wh h3) lO.nil)))
 ·cases h
def ld.kv:QU ld:=⟨ld.cells,ld.of,fun _ _ _ _ h=>ld.nI h,ld.nb⟩
def ld.sN:ld.row.enc=ld.cells/\ld.row.mH=ld.ZB/\ld.row.sz=8/\ld.kv.enc=ld.cells/\ld.kv.mH=ld.of:=⟨rfl,rfl,rfl,rfl,rfl⟩
attribute [go_sem] ld.mY ld.l9 ld.sN ld.ZB ld.yC
def ld.Sp:(∀(y0:Int)(y1:jW)(y2:Int)(y3:List kw),(ld.mk y0 y1 y2 y3).kind=y0)/\(∀(y0:Int)(y1:jW)(y2:Int)(y3:List kw),(ld.mk y0 y1 y2 y3).body=y1)/\(∀(y0:Int)(y1:jW)(y2:Int)(y3:List kw),(ld.mk y0 y1 y2 y3).var=y2)/\(∀(y0:Int)(y1:jW)(y2:Int)(y3:List kw),(ld.mk y0 y1 y2 y3).oe=y3):=⟨fun _ _ _ _=>rfl,fun _ _ _ _=>rfl,fun _ _ _ _=>rfl,fun _ _ _ _=>rfl⟩
attribute [go_sem] ld.Sp
def kw.of(H:List j5):List AV->Option kw
 |[c0,c1,c2,c3,c4,c5,c6,c7,c8,c9]=>(dS c0).bind fun x0=>(dB c1).bind fun x1=>(ld.of H [c2,c3,c4,c5,c6,c7,c8,c9]).bind fun x2=>some (.mk x0 x1 x2)
 |_=>none
def kw.mY {c0 c1 c2 c3 c4 c5 c6:AV}:kw.of H [c0,c1,c2,c3,c4,c5,c6,c7,c8,c9]=(dS c0).bind fun x0=>(dB c1).bind fun x1=>(ld.of H [c2,c3,c4,c5,c6,c7,c8,c9]).bind fun x2=>some (.mk x0 x1 x2):=rfl
def kw.nI{x:kw}(h:kw.of H cs=some x):lO H n cs x.cells:=by
 unfold kw.of at h;split at h
 ·simp only[fp,fq]at h;obtain⟨x0,h0,x1,h1,x2,h2,rfl⟩:=h;rw[kw.kN];exact(lO.append (lO.cons (QS h0) (lO.cons (ap4 h1) lO.nil)) (ld.nI h2))
 ·cases h
def kw.kv:QU kw:=⟨kw.cells,kw.of,fun _ _ _ _ h=>kw.nI h,kw.nb⟩
def kw.sN:kw.row.enc=kw.cells/\kw.row.mH=kw.ZB/\kw.row.sz=10/\kw.kv.enc=kw.cells/\kw.kv.mH=kw.of:=⟨rfl,rfl,rfl,rfl,rfl⟩
attribute [go_sem] kw.mY kw.lU kw.sN kw.ZB kw.yC
def kw.Sp:(∀(y0:kj)(y1:Bool)(y2:ld),(kw.mk y0 y1 y2).XE=y0)/\(∀(y0:kj)(y1:Bool)(y2:ld),(kw.mk y0 y1 y2).za=y1)/\(∀(y0:kj)(y1:Bool)(y2:ld),(kw.mk y0 y1 y2).tA=y2):=⟨fun _ _ _=>rfl,fun _ _ _=>rfl,fun _ _ _=>rfl⟩
attribute [go_sem] kw.Sp
def ld.nbs:(∀(n:Nat)(x:ld),Go.Abs.uc n x.cells=True)/\∀(n:Nat)(xs:List ld),Go.Abs.Jv n (mp ld.cells xs)=True:=⟨fun n x=>eq_true (ld.nb n x),fun n xs=>eq_true (my (ld.nb n) xs)⟩
def ld.vw(H:List j5)(x:ld):vwL H x.cells=some (x.cells,[]):=Ag H _ (ld.nb 0 x)
attribute [go_sem] ld.vw
def ld.reads:
 (∀x:ld,cellsOf (.agg x.cells)=some x.cells)/\
 (∀x:ld,kr true 8 x.cells=some (.agg x.cells))/\
 (∀x:ld,kr false 1 x.cells=some (.int .i64 x.kind))/\
 (∀x:ld,kr false 1 (x.cells.drop 1)=some (.int .i64 x.body.kind))/\
 (∀x:ld,kr false 1 (x.cells.drop 2)=some (.int .i64 x.body.index))/\
 (∀x:ld,kr false 1 (x.cells.drop 3)=some (.str (sb x.body.name)))/\
 (∀x:ld,kr false 1 (x.cells.drop 4)=some (.kF false 2 (mp kA.cells x.body.kg)))/\
 (∀x:ld,kr false 1 (x.cells.drop 5)=some (.kF false 5 (mp jW.cells x.body.kI)))/\
 (∀x:ld,kr false 1 (x.cells.drop 6)=some (.int .i64 x.var))/\
 (∀x:ld,kr false 1 (x.cells.drop 7)=some (.kF false 10 (mp kw.cells x.oe)))/\
 (∀x:ld,kr true 5 (x.cells.drop 1)=some (.agg x.body.cells)):=
 ⟨fun x=>by simp only[cellsOf,ld.lI,jM],
  fun x=>ql (ld.length x),
  fun x=>by rw[ld.jV];rfl,
  fun x=>by rw[ld.jV];rfl,
  fun x=>by rw[ld.jV];rfl,
  fun x=>by rw[ld.jV];rfl,
  fun x=>by rw[ld.jV];rfl,
  fun x=>by rw[ld.jV];rfl,
  fun x=>by rw[ld.jV];rfl,
  fun x=>by rw[ld.jV];rfl,
  fun x=>by rw[ld.jV];simp only[jW.jV,fx,fA];rfl⟩
attribute [go_sem] ld.nbs ld.reads ld.length ld.lI
def kw.reads:
 (∀x:kw,cellsOf (.agg x.cells)=some x.cells)/\
 (∀x:kw,kr true 10 x.cells=some (.agg x.cells))/\
 (∀x:kw,kr false 1 x.cells=some (.str (sb x.XE)))/\
 (∀x:kw,kr false 1 (x.cells.drop 1)=some (.bool x.za))/\
 (∀x:kw,kr false 1 (x.cells.drop 2)=some (.int .i64 x.tA.kind))/\
 (∀x:kw,kr false 1 (x.cells.drop 3)=some (.int .i64 x.tA.body.kind))/\
 (∀x:kw,kr false 1 (x.cells.drop 4)=some (.int .i64 x.tA.body.index))/\
 (∀x:kw,kr false 1 (x.cells.drop 5)=some (.str (sb x.tA.body.name)))/\
 (∀x:kw,kr false 1 (x.cells.drop 6)=some (.kF false 2 (mp kA.cells x.tA.body.kg)))/\
 (∀x:kw,kr false 1 (x.cells.drop 7)=some (.kF false 5 (mp jW.cells x.tA.body.kI)))/\
 (∀x:kw,kr false 1 (x.cells.drop 8)=some (.int .i64 x.tA.var))/\
 (∀x:kw,kr false 1 (x.cells.drop 9)=some (.kF false 10 (mp kw.cells x.tA.oe)))/\
 (∀x:kw,kr true 8 (x.cells.drop 2)=some (.agg x.tA.cells))/\
 (∀x:kw,kr true 5 (x.cells.drop 3)=some (.agg x.tA.body.cells)):=
 ⟨fun x=>by simp only[cellsOf,kw.lI,jM],
  fun x=>ql (kw.length x),
  fun x=>by rw[kw.jV];rfl,
  fun x=>by rw[kw.jV];rfl,
  fun x=>by rw[kw.jV];rfl,
  fun x=>by rw[kw.jV];rfl,
  fun x=>by rw[kw.jV];rfl,
  fun x=>by rw[kw.jV];rfl,
  fun x=>by rw[kw.jV];rfl,
  fun x=>by rw[kw.jV];rfl,
  fun x=>by rw[kw.jV];rfl,
  fun x=>by rw[kw.jV];rfl,
  fun x=>by rw[kw.jV];simp only[jW.jV,ld.jV,fx,fA];rfl,
  fun x=>by rw[kw.jV];simp only[jW.jV,ld.jV,fx,fA];rfl⟩
attribute [go_sem] kw.reads kw.length kw.lI
structure qH where
 name:kj
 type:jW
 ata:Int
 tA:ld
def qH.cells(x:qH):List AV:=[.str (sb x.name)]++x.type.cells++[.int .i64 x.ata]++x.tA.cells
theorem qH.kN(x:qH):x.cells=[.str (sb x.name)]++x.type.cells++[.int .i64 x.ata]++x.tA.cells:=rfl
theorem qH.jV(x:qH):x.cells=[.str (sb x.name),.int .i64 x.type.kind,.int .i64 x.type.index,.str (sb x.type.name),.kF false 2 (mp kA.cells x.type.kg),.kF false 5 (mp jW.cells x.type.kI),.int .i64 x.ata,.int .i64 x.tA.kind,.int .i64 x.tA.body.kind,.int .i64 x.tA.body.index,.str (sb x.tA.body.name),.kF false 2 (mp kA.cells x.tA.body.kg),.kF false 5 (mp jW.cells x.tA.body.kI),.int .i64 x.tA.var,.kF false 10 (mp kw.cells x.tA.oe)]:=by
 simp only[qH.cells,jW.jV,ld.jV,fB,fC,fD]
attribute [irreducible] qH.cells
theorem qH.length(x:qH):x.cells.length=15:=by rw[qH.jV];rfl
def qH.lI(x:qH):x.cells.all AV.lI=true:=by rw[qH.jV];rfl
theorem qH.nb(n:Nat)(x:qH):uc n x.cells:=by
 rw[qH.kN];exact(pz (pz (pz ⟨trivial,trivial⟩ (jW.nb n x.type)) ⟨trivial,trivial⟩) (ld.nb n x.tA))
def qH.of(H:List j5):List AV->Option qH
 |[c0,c1,c2,c3,c4,c5,c6,c7,c8,c9,c10,c11,c12,c13,c14]=>(dS c0).bind fun x0=>(jW.of H [c1,c2,c3,c4,c5]).bind fun x1=>(dI .i64 c6).bind fun x2=>(ld.of H [c7,c8,c9,c10,c11,c12,c13,c14]).bind fun x3=>some (.mk x0 x1 x2 x3)
 |_=>none
def qH.mY {c0 c1 c2 c3 c4 c5 c6 c14:AV}:qH.of H [c0,c1,c2,c3,c4,c5,c6,c7,c8,c9,c10,c11,c12,c13,c14]=(dS c0).bind fun x0=>(jW.of H [c1,c2,c3,c4,c5]).bind fun x1=>(dI .i64 c6).bind fun x2=>(ld.of H [c7,c8,c9,c10,c11,c12,c13,c14]).bind fun x3=>some (.mk x0 x1 x2 x3):=rfl
def qH.kR(H:List j5)(x:qH):qH.of H [.str (sb x.name),.int .i64 x.type.kind,.int .i64 x.type.index,.str (sb x.type.name),.kF false 2 (mp kA.cells x.type.kg),.kF false 5 (mp jW.cells x.type.kI),.int .i64 x.ata,.int .i64 x.tA.kind,.int .i64 x.tA.body.kind,.int .i64 x.tA.body.index,.str (sb x.tA.body.name),.kF false 2 (mp kA.cells x.tA.body.kg),.kF false 5 (mp jW.cells x.tA.body.kI),.int .i64 x.tA.var,.kF false 10 (mp kw.cells x.tA.oe)]=some x:=by
 simp only[qH.mY,wz,tw,BD,nO,Af,beq_self_eq_true,fy,jE,dL,jW.kR,ld.kR]
 try (cases x;rfl)
theorem qH.l9(H:List j5)(x:qH):qH.of H x.cells=some x:=by rw[qH.jV];exact qH.kR H x
def qH.nI{x:qH}(h:qH.of H cs=some x):lO H n cs x.cells:=by
 unfold qH.of at h;split at h
 ·simp only[fp,fq]at h;obtain⟨x0,h0,x1,h1,x2,h2,x3,h3,rfl⟩:=h;rw[qH.kN];exact(lO.append (lO.append (lO.append (lO.cons (QS h0) lO.nil) (jW.nI h1)) (lO.cons (ut h2) lO.nil)) (ld.nI h3))
 ·cases h
def qH.kv:QU qH:=⟨qH.cells,qH.of,fun _ _ _ _ h=>qH.nI h,qH.nb⟩
def qH.row:Row qH:=⟨qH.cells,qH.of [],15,fun _ _ h=>(qH.nI (n:=0) h).nG,qH.nb⟩
def qH.lU(xs:List qH):qQ (qH.of []) (mp qH.cells xs)=some xs:=yz (qH.l9 []) xs
def qH.sN:qH.row.enc=qH.cells/\qH.row.mH=qH.of []/\qH.row.sz=15/\qH.kv.enc=qH.cells/\qH.kv.mH=qH.of:=⟨rfl,rfl,rfl,rfl,rfl⟩
attribute [go_sem] qH.mY qH.l9 qH.lU qH.sN
def qH.Sp:(∀(y0:kj)(y1:jW)(y2:Int)(y3:ld),(qH.mk y0 y1 y2 y3).name=y0)/\(∀(y0:kj)(y1:jW)(y2:Int)(y3:ld),(qH.mk y0 y1 y2 y3).type=y1)/\(∀(y0:kj)(y1:jW)(y2:Int)(y3:ld),(qH.mk y0 y1 y2 y3).ata=y2)/\(∀(y0:kj)(y1:jW)(y2:Int)(y3:ld),(qH.mk y0 y1 y2 y3).tA=y3):=⟨fun _ _ _ _=>rfl,fun _ _ _ _=>rfl,fun _ _ _ _=>rfl,fun _ _ _ _=>rfl⟩
attribute [go_sem] qH.Sp
def qH.nbs:(∀(n:Nat)(x:qH),Go.Abs.uc n x.cells=True)/\∀(n:Nat)(xs:List qH),Go.Abs.Jv n (mp qH.cells xs)=True:=⟨fun n x=>eq_true (qH.nb n x),fun n xs=>eq_true (my (qH.nb n) xs)⟩
def qH.reads:
 (∀x:qH,cellsOf (.agg x.cells)=some x.cells)/\
 (∀x:qH,kr true 15 x.cells=some (.agg x.cells))/\
 (∀x:qH,kr false 1 x.cells=some (.str (sb x.name)))/\
 (∀x:qH,kr false 1 (x.cells.drop 1)=some (.int .i64 x.type.kind))/\
 (∀x:qH,kr false 1 (x.cells.drop 2)=some (.int .i64 x.type.index))/\
 (∀x:qH,kr false 1 (x.cells.drop 3)=some (.str (sb x.type.name)))/\
 (∀x:qH,kr false 1 (x.cells.drop 4)=some (.kF false 2 (mp kA.cells x.type.kg)))/\
 (∀x:qH,kr false 1 (x.cells.drop 5)=some (.kF false 5 (mp jW.cells x.type.kI)))/\
 (∀x:qH,kr false 1 (x.cells.drop 6)=some (.int .i64 x.ata))/\
 (∀x:qH,kr false 1 (x.cells.drop 7)=some (.int .i64 x.tA.kind))/\
 (∀x:qH,kr false 1 (x.cells.drop 8)=some (.int .i64 x.tA.body.kind))/\
 (∀x:qH,kr false 1 (x.cells.drop 9)=some (.int .i64 x.tA.body.index))/\
 (∀x:qH,kr false 1 (x.cells.drop 10)=some (.str (sb x.tA.body.name)))/\
 (∀x:qH,kr false 1 (x.cells.drop 11)=some (.kF false 2 (mp kA.cells x.tA.body.kg)))/\
 (∀x:qH,kr false 1 (x.cells.drop 12)=some (.kF false 5 (mp jW.cells x.tA.body.kI)))/\
 (∀x:qH,kr false 1 (x.cells.drop 13)=some (.int .i64 x.tA.var))/\
 (∀x:qH,kr false 1 (x.cells.drop 14)=some (.kF false 10 (mp kw.cells x.tA.oe)))/\
 (∀x:qH,kr true 5 (x.cells.drop 1)=some (.agg x.type.cells))/\
 (∀x:qH,kr true 8 (x.cells.drop 7)=some (.agg x.tA.cells))/\
 (∀x:qH,kr true 5 (x.cells.drop 8)=some (.agg x.tA.body.cells)):=
 ⟨fun x=>by simp only[cellsOf,qH.lI,jM],
  fun x=>ql (qH.length x),
  fun x=>by rw[qH.jV];rfl,
  fun x=>by rw[qH.jV];rfl,
  fun x=>by rw[qH.jV];rfl,
  fun x=>by rw[qH.jV];rfl,
  fun x=>by rw[qH.jV];rfl,
  fun x=>by rw[qH.jV];rfl,
  fun x=>by rw[qH.jV];rfl,
  fun x=>by rw[qH.jV];rfl,
  fun x=>by rw[qH.jV];rfl,
  fun x=>by rw[qH.jV];rfl,
  fun x=>by rw[qH.jV];rfl,
  fun x=>by rw[qH.jV];rfl,
  fun x=>by rw[qH.jV];rfl,
  fun x=>by rw[qH.jV];rfl,
  fun x=>by rw[qH.jV];rfl,
  fun x=>by rw[qH.jV];simp only[jW.jV,ld.jV,fx,fA];rfl,
  fun x=>by rw[qH.jV];simp only[jW.jV,ld.jV,fx,fA];rfl,
  fun x=>by rw[qH.jV];simp only[jW.jV,ld.jV,fx,fA];rfl⟩
attribute [go_sem] qH.nbs qH.reads qH.length qH.lI
structure kz where
 kind:Int
 name:kj
 params:Int
 type:jW
 value:jW
 GS:Int
 q5:List mI
 oZ:kV
 Aj:List qH
def kz.cells(x:kz):List AV:=[.int .i64 x.kind,.str (sb x.name),.int .i64 x.params]++x.type.cells++x.value.cells++[.int .i64 x.GS,.kF false 6 (mp mI.cells x.q5)]++x.oZ.cells++[.kF false 15 (mp qH.cells x.Aj)]
theorem kz.kN(x:kz):x.cells=[.int .i64 x.kind,.str (sb x.name),.int .i64 x.params]++x.type.cells++x.value.cells++[.int .i64 x.GS,.kF false 6 (mp mI.cells x.q5)]++x.oZ.cells++[.kF false 15 (mp qH.cells x.Aj)]:=rfl
theorem kz.jV(x:kz):x.cells=[.int .i64 x.kind,.str (sb x.name),.int .i64 x.params,.int .i64 x.type.kind,.int .i64 x.type.index,.str (sb x.type.name),.kF false 2 (mp kA.cells x.type.kg),.kF false 5 (mp jW.cells x.type.kI),.int .i64 x.value.kind,.int .i64 x.value.index,.str (sb x.value.name),.kF false 2 (mp kA.cells x.value.kg),.kF false 5 (mp jW.cells x.value.kI),.int .i64 x.GS,.kF false 6 (mp mI.cells x.q5),.int .i64 x.oZ.params,.int .i64 x.oZ.type.kind,.int .i64 x.oZ.type.index,.str (sb x.oZ.type.name),.kF false 2 (mp kA.cells x.oZ.type.kg),.kF false 5 (mp jW.cells x.oZ.type.kI),.kF false 5 (mp jW.cells x.oZ.yA),.kF false 15 (mp qH.cells x.Aj)]:=by
 simp only[kz.cells,kV.jV,jW.jV,fB,fC,fD]
attribute [irreducible] kz.cells
theorem kz.length(x:kz):x.cells.length=23:=by rw[kz.jV];rfl
def kz.lI(x:kz):x.cells.all AV.lI=true:=by rw[kz.jV];rfl
theorem kz.nb(n:Nat)(x:kz):uc n x.cells:=by
 rw[kz.kN];exact(pz (pz (pz (pz (pz ⟨trivial,trivial,trivial,trivial⟩ (jW.nb n x.type)) (jW.nb n x.value)) ⟨trivial,my (mI.nb n) _,trivial⟩) (kV.nb n x.oZ)) ⟨my (qH.nb n) _,trivial⟩)
def kz.of(H:List j5):List AV->Option kz
 |[c0,c1,c2,c3,c4,c5,c6,c7,c8,c9,c10,c11,c12,c13,c14,c15,c16,c17,c18,c19,c20,c21,c22]=>(dI .i64 c0).bind fun x0=>(dS c1).bind fun x1=>(dI .i64 c2).bind fun x2=>(jW.of H [c3,c4,c5,c6,c7]).bind fun x3=>(jW.of H [c8,c9,c10,c11,c12]).bind fun x4=>(dI .i64 c13).bind fun x5=>(dL mI.row H c14).bind fun x6=>(kV.of H [c15,c16,c17,c18,c19,c20,c21]).bind fun x7=>(dL qH.row H c22).bind fun x8=>some (.mk x0 x1 x2 x3 x4 x5 x6 x7 x8)
 |_=>none
def kz.mY {c0 c1 c2 c3 c4 c5 c6 c14 c15 c16 c17 c18 c19 c20 c21 c22:AV}:kz.of H [c0,c1,c2,c3,c4,c5,c6,c7,c8,c9,c10,c11,c12,c13,c14,c15,c16,c17,c18,c19,c20,c21,c22]=(dI .i64 c0).bind fun x0=>(dS c1).bind fun x1=>(dI .i64 c2).bind fun x2=>(jW.of H [c3,c4,c5,c6,c7]).bind fun x3=>(jW.of H [c8,c9,c10,c11,c12]).bind fun x4=>(dI .i64 c13).bind fun x5=>(dL mI.row H c14).bind fun x6=>(kV.of H [c15,c16,c17,c18,c19,c20,c21]).bind fun x7=>(dL qH.row H c22).bind fun x8=>some (.mk x0 x1 x2 x3 x4 x5 x6 x7 x8):=rfl
def kz.kR(H:List j5)(x:kz):kz.of H [.int .i64 x.kind,.str (sb x.name),.int .i64 x.params,.int .i64 x.type.kind,.int .i64 x.type.index,.str (sb x.type.name),.kF false 2 (mp kA.cells x.type.kg),.kF false 5 (mp jW.cells x.type.kI),.int .i64 x.value.kind,.int .i64 x.value.index,.str (sb x.value.name),.kF false 2 (mp kA.cells x.value.kg),.kF false 5 (mp jW.cells x.value.kI),.int .i64 x.GS,.kF false 6 (mp mI.cells x.q5),.int .i64 x.oZ.params,.int .i64 x.oZ.type.kind,.int .i64 x.oZ.type.index,.str (sb x.oZ.type.name),.kF false 2 (mp kA.cells x.oZ.type.kg),.kF false 5 (mp jW.cells x.oZ.type.kI),.kF false 5 (mp jW.cells x.oZ.yA),.kF false 15 (mp qH.cells x.Aj)]=some x:=by
 simp only[kz.mY,wz,tw,BD,nO,Af,beq_self_eq_true,fy,jE,dL,mI.lU,mI.row,qH.lU,qH.row,kV.kR,jW.kR]
 try (cases x;rfl)
theorem kz.l9(H:List j5)(x:kz):kz.of H x.cells=some x:=by rw[kz.jV];exact kz.kR H x
def kz.nI{x:kz}(h:kz.of H cs=some x):lO H n cs x.cells:=by
 unfold kz.of at h;split at h
 ·simp only[fp,fq]at h;obtain⟨x0,h0,x1,h1,x2,h2,x3,h3,x4,h4,x5,h5,x6,h6,x7,h7,x8,h8,rfl⟩:=h;rw[kz.kN];exact(lO.append (lO.append (lO.append (lO.append (lO.append (lO.cons (ut h0) (lO.cons (QS h1) (lO.cons (ut h2) lO.nil))) (jW.nI h3)) (jW.nI h4)) (lO.cons (ut h5) (lO.cons (wh h6) lO.nil))) (kV.nI h7)) (lO.cons (wh h8) lO.nil))
 ·cases h
def kz.kv:QU kz:=⟨kz.cells,kz.of,fun _ _ _ _ h=>kz.nI h,kz.nb⟩
def kz.row:Row kz:=⟨kz.cells,kz.of [],23,fun _ _ h=>(kz.nI (n:=0) h).nG,kz.nb⟩
def kz.lU(xs:List kz):qQ (kz.of []) (mp kz.cells xs)=some xs:=yz (kz.l9 []) xs
def kz.sN:kz.row.enc=kz.cells/\kz.row.mH=kz.of []/\kz.row.sz=23/\kz.kv.enc=kz.cells/\kz.kv.mH=kz.of:=⟨rfl,rfl,rfl,rfl,rfl⟩
def kz.eta(x:kz):kz.mk x.kind x.name x.params x.type x.value x.GS x.q5 x.oZ x.Aj=x:=by cases x;rfl
attribute [go_sem] kz.mY kz.l9 kz.lU kz.sN kz.eta
def kz.Sp:(∀(y0:Int)(y1:kj)(y2:Int)(y3:jW)(y4:jW)(y5:Int)(y6:List mI)(y7:kV)(y8:List qH),(kz.mk y0 y1 y2 y3 y4 y5 y6 y7 y8).kind=y0)/\(∀(y0:Int)(y1:kj)(y2:Int)(y3:jW)(y4:jW)(y5:Int)(y6:List mI)(y7:kV)(y8:List qH),(kz.mk y0 y1 y2 y3 y4 y5 y6 y7 y8).name=y1)/\(∀(y0:Int)(y1:kj)(y2:Int)(y3:jW)(y4:jW)(y5:Int)(y6:List mI)(y7:kV)(y8:List qH),(kz.mk y0 y1 y2 y3 y4 y5 y6 y7 y8).params=y2)/\(∀(y0:Int)(y1:kj)(y2:Int)(y3:jW)(y4:jW)(y5:Int)(y6:List mI)(y7:kV)(y8:List qH),(kz.mk y0 y1 y2 y3 y4 y5 y6 y7 y8).type=y3)/\(∀(y0:Int)(y1:kj)(y2:Int)(y3:jW)(y4:jW)(y5:Int)(y6:List mI)(y7:kV)(y8:List qH),(kz.mk y0 y1 y2 y3 y4 y5 y6 y7 y8).value=y4)/\(∀(y0:Int)(y1:kj)(y2:Int)(y3:jW)(y4:jW)(y5:Int)(y6:List mI)(y7:kV)(y8:List qH),(kz.mk y0 y1 y2 y3 y4 y5 y6 y7 y8).GS=y5)/\(∀(y0:Int)(y1:kj)(y2:Int)(y3:jW)(y4:jW)(y5:Int)(y6:List mI)(y7:kV)(y8:List qH),(kz.mk y0 y1 y2 y3 y4 y5 y6 y7 y8).q5=y6)/\(∀(y0:Int)(y1:kj)(y2:Int)(y3:jW)(y4:jW)(y5:Int)(y6:List mI)(y7:kV)(y8:List qH),(kz.mk y0 y1 y2 y3 y4 y5 y6 y7 y8).oZ=y7)/\(∀(y0:Int)(y1:kj)(y2:Int)(y3:jW)(y4:jW)(y5:Int)(y6:List mI)(y7:kV)(y8:List qH),(kz.mk y0 y1 y2 y3 y4 y5 y6 y7 y8).Aj=y8):=⟨fun _ _ _ _ _ _ _ _ _=>rfl,fun _ _ _ _ _ _ _ _ _=>rfl,fun _ _ _ _ _ _ _ _ _=>rfl,fun _ _ _ _ _ _ _ _ _=>rfl,fun _ _ _ _ _ _ _ _ _=>rfl,fun _ _ _ _ _ _ _ _ _=>rfl,fun _ _ _ _ _ _ _ _ _=>rfl,fun _ _ _ _ _ _ _ _ _=>rfl,fun _ _ _ _ _ _ _ _ _=>rfl⟩
attribute [go_sem] kz.Sp
def kz.nbs:(∀(n:Nat)(x:kz),Go.Abs.uc n x.cells=True)/\∀(n:Nat)(xs:List kz),Go.Abs.Jv n (mp kz.cells xs)=True:=⟨fun n x=>eq_true (kz.nb n x),fun n xs=>eq_true (my (kz.nb n) xs)⟩
def kz.vw(H:List j5)(x:kz):vwL H x.cells=some (x.cells,[]):=Ag H _ (kz.nb 0 x)
attribute [go_sem] kz.vw
def kz.reads:
 (∀x:kz,cellsOf (.agg x.cells)=some x.cells)/\
 (∀x:kz,kr true 23 x.cells=some (.agg x.cells))/\
 (∀x:kz,kr false 1 x.cells=some (.int .i64 x.kind))/\
 (∀x:kz,kr false 1 (x.cells.drop 1)=some (.str (sb x.name)))/\
 (∀x:kz,kr false 1 (x.cells.drop 2)=some (.int .i64 x.params))/\
 (∀x:kz,kr false 1 (x.cells.drop 3)=some (.int .i64 x.type.kind))/\
 (∀x:kz,kr false 1 (x.cells.drop 4)=some (.int .i64 x.type.index))/\
 (∀x:kz,kr false 1 (x.cells.drop 5)=some (.str (sb x.type.name)))/\
 (∀x:kz,kr false 1 (x.cells.drop 6)=some (.kF false 2 (mp kA.cells x.type.kg)))/\
 (∀x:kz,kr false 1 (x.cells.drop 7)=some (.kF false 5 (mp jW.cells x.type.kI)))/\
 (∀x:kz,kr false 1 (x.cells.drop 8)=some (.int .i64 x.value.kind))/\
 (∀x:kz,kr false 1 (x.cells.drop 9)=some (.int .i64 x.value.index))/\
 (∀x:kz,kr false 1 (x.cells.drop 10)=some (.str (sb x.value.name)))/\
 (∀x:kz,kr false 1 (x.cells.drop 11)=some (.kF false 2 (mp kA.cells x.value.kg)))/\
 (∀x:kz,kr false 1 (x.cells.drop 12)=some (.kF false 5 (mp jW.cells x.value.kI)))/\
 (∀x:kz,kr false 1 (x.cells.drop 13)=some (.int .i64 x.GS))/\
 (∀x:kz,kr false 1 (x.cells.drop 14)=some (.kF false 6 (mp mI.cells x.q5)))/\
 (∀x:kz,kr false 1 (x.cells.drop 15)=some (.int .i64 x.oZ.params))/\
 (∀x:kz,kr false 1 (x.cells.drop 16)=some (.int .i64 x.oZ.type.kind))/\
 (∀x:kz,kr false 1 (x.cells.drop 17)=some (.int .i64 x.oZ.type.index))/\
 (∀x:kz,kr false 1 (x.cells.drop 18)=some (.str (sb x.oZ.type.name)))/\
 (∀x:kz,kr false 1 (x.cells.drop 19)=some (.kF false 2 (mp kA.cells x.oZ.type.kg)))/\
 (∀x:kz,kr false 1 (x.cells.drop 20)=some (.kF false 5 (mp jW.cells x.oZ.type.kI)))/\
 (∀x:kz,kr false 1 (x.cells.drop 21)=some (.kF false 5 (mp jW.cells x.oZ.yA)))/\
 (∀x:kz,kr false 1 (x.cells.drop 22)=some (.kF false 15 (mp qH.cells x.Aj)))/\
 (∀x:kz,kr true 5 (x.cells.drop 3)=some (.agg x.type.cells))/\
 (∀x:kz,kr true 5 (x.cells.drop 8)=some (.agg x.value.cells))/\
 (∀x:kz,kr true 7 (x.cells.drop 15)=some (.agg x.oZ.cells))/\
 (∀x:kz,kr true 5 (x.cells.drop 16)=some (.agg x.oZ.type.cells)):=
 ⟨fun x=>by simp only[cellsOf,kz.lI,jM],
  fun x=>ql (kz.length x),
  fun x=>by rw[kz.jV];rfl,
  fun x=>by rw[kz.jV];rfl,
  fun x=>by rw[kz.jV];rfl,
  fun x=>by rw[kz.jV];rfl,
  fun x=>by rw[kz.jV];rfl,
  fun x=>by rw[kz.jV];rfl,
  fun x=>by rw[kz.jV];rfl,
  fun x=>by rw[kz.jV];rfl,
  fun x=>by rw[kz.jV];rfl,
  fun x=>by rw[kz.jV];rfl,
  fun x=>by rw[kz.jV];rfl,
  fun x=>by rw[kz.jV];rfl,
  fun x=>by rw[kz.jV];rfl,
  fun x=>by rw[kz.jV];rfl,
  fun x=>by rw[kz.jV];rfl,
  fun x=>by rw[kz.jV];rfl,
  fun x=>by rw[kz.jV];rfl,
  fun x=>by rw[kz.jV];rfl,
  fun x=>by rw[kz.jV];rfl,
  fun x=>by rw[kz.jV];rfl,
  fun x=>by rw[kz.jV];rfl,
  fun x=>by rw[kz.jV];rfl,
  fun x=>by rw[kz.jV];rfl,
  fun x=>by rw[kz.jV];simp only[kV.jV,jW.jV,fx,fA];rfl,
  fun x=>by rw[kz.jV];simp only[kV.jV,jW.jV,fx,fA];rfl,
  fun x=>by rw[kz.jV];simp only[kV.jV,jW.jV,fx,fA];rfl,
  fun x=>by rw[kz.jV];simp only[kV.jV,jW.jV,fx,fA];rfl⟩
def kz.cns(x:kz)(c:AV):c::x.cells=[c,.int .i64 x.kind,.str (sb x.name),.int .i64 x.params,.int .i64 x.type.kind,.int .i64 x.type.index,.str (sb x.type.name),.kF false 2 (mp kA.cells x.type.kg),.kF false 5 (mp jW.cells x.type.kI),.int .i64 x.value.kind,.int .i64 x.value.index,.str (sb x.value.name),.kF false 2 (mp kA.cells x.value.kg),.kF false 5 (mp jW.cells x.value.kI),.int .i64 x.GS,.kF false 6 (mp mI.cells x.q5),.int .i64 x.oZ.params,.int .i64 x.oZ.type.kind,.int .i64 x.oZ.type.index,.str (sb x.oZ.type.name),.kF false 2 (mp kA.cells x.oZ.type.kg),.kF false 5 (mp jW.cells x.oZ.type.kI),.kF false 5 (mp jW.cells x.oZ.yA),.kF false 15 (mp qH.cells x.Aj)]:=by rw[kz.jV]
attribute [go_sem] kz.cns kz.nbs kz.reads kz.length kz.lI
structure kC where
 name:kj
 atb:List Int
def kC.cells(x:kC):List AV:=[.str (sb x.name),.kF false 1 (mp Ui x.atb)]
theorem kC.kN(x:kC):x.cells=[.str (sb x.name),.kF false 1 (mp Ui x.atb)]:=rfl
theorem kC.jV(x:kC):x.cells=[.str (sb x.name),.kF false 1 (mp Ui x.atb)]:=rfl
attribute [irreducible] kC.cells
theorem kC.length(x:kC):x.cells.length=2:=by rw[kC.jV];rfl
theorem kC.nb(n:Nat)(x:kC):uc n x.cells:=by
 rw[kC.kN];exact⟨trivial,my (as7 n) _,trivial⟩
def kC.of(H:List j5):List AV->Option kC
 |[c0,c1]=>(dS c0).bind fun x0=>(dL aHv H c1).bind fun x1=>some (.mk x0 x1)
 |_=>none
def kC.mY{c0 c1:AV}:kC.of H [c0,c1]=(dS c0).bind fun x0=>(dL aHv H c1).bind fun x1=>some (.mk x0 x1):=rfl
def kC.kR(H:List j5)(x:kC):kC.of H [.str (sb x.name),.kF false 1 (mp Ui x.atb)]=some x:=by
 simp only[kC.mY,wz,tw,BD,nO,Af,beq_self_eq_true,fy,jE,dL,ye,aHw]
 try (cases x;rfl)
theorem kC.l9(H:List j5)(x:kC):kC.of H x.cells=some x:=by rw[kC.jV];exact kC.kR H x
def kC.nI{x:kC}(h:kC.of H cs=some x):lO H n cs x.cells:=by
 unfold kC.of at h;split at h
 ·simp only[fp,fq]at h;obtain⟨x0,h0,x1,h1,rfl⟩:=h;rw[kC.kN];exact(lO.cons (QS h0) (lO.cons (wh h1) lO.nil))
 ·cases h
def kC.kv:QU kC:=⟨kC.cells,kC.of,fun _ _ _ _ h=>kC.nI h,kC.nb⟩
def kC.row:Row kC:=⟨kC.cells,kC.of [],2,fun _ _ h=>(kC.nI (n:=0) h).nG,kC.nb⟩
def kC.lU(xs:List kC):qQ (kC.of []) (mp kC.cells xs)=some xs:=yz (kC.l9 []) xs
def kC.sN:kC.row.enc=kC.cells/\kC.row.mH=kC.of []/\kC.row.sz=2/\kC.kv.enc=kC.cells/\kC.kv.mH=kC.of:=⟨rfl,rfl,rfl,rfl,rfl⟩
attribute [go_sem] kC.mY kC.l9 kC.lU kC.sN
def kC.Sp:(∀(y0:kj)(y1:List Int),(kC.mk y0 y1).name=y0)/\(∀(y0:kj)(y1:List Int),(kC.mk y0 y1).atb=y1):=⟨fun _ _=>rfl,fun _ _=>rfl⟩
attribute [go_sem] kC.Sp
def kC.nbs:(∀(n:Nat)(x:kC),Go.Abs.uc n x.cells=True)/\∀(n:Nat)(xs:List kC),Go.Abs.Jv n (mp kC.cells xs)=True:=⟨fun n x=>eq_true (kC.nb n x),fun n xs=>eq_true (my (kC.nb n) xs)⟩
attribute [go_sem] kC.nbs kC.length
structure kH where
 env:List kz
 wX:List kC
 Cy:List kj
 instances:List kj
 sW:List jR
 sB:List kj
 opens:List kj
def kH.cells(x:kH):List AV:=[.kF false 23 (mp kz.cells x.env),.kF false 2 (mp kC.cells x.wX),.kF false 1 (mp kX x.Cy),.kF false 1 (mp kX x.instances),.kF false 4 (mp jR.cells x.sW),.kF false 1 (mp kX x.sB),.kF false 1 (mp kX x.opens)]
theorem kH.kN(x:kH):x.cells=[.kF false 23 (mp kz.cells x.env),.kF false 2 (mp kC.cells x.wX),.kF false 1 (mp kX x.Cy),.kF false 1 (mp kX x.instances),.kF false 4 (mp jR.cells x.sW),.kF false 1 (mp kX x.sB),.kF false 1 (mp kX x.opens)]:=rfl
theorem kH.jV(x:kH):x.cells=[.kF false 23 (mp kz.cells x.env),.kF false 2 (mp kC.cells x.wX),.kF false 1 (mp kX x.Cy),.kF false 1 (mp kX x.instances),.kF false 4 (mp jR.cells x.sW),.kF false 1 (mp kX x.sB),.kF false 1 (mp kX x.opens)]:=rfl
attribute [irreducible] kH.cells
theorem kH.length(x:kH):x.cells.length=7:=by rw[kH.jV];rfl
def kH.lI(x:kH):x.cells.all AV.lI=true:=by rw[kH.jV];rfl
theorem kH.nb(n:Nat)(x:kH):uc n x.cells:=by
 rw[kH.kN];exact⟨my (kz.nb n) _,my (kC.nb n) _,my (wA n) _,my (wA n) _,my (jR.nb n) _,my (wA n) _,my (wA n) _,trivial⟩
def kH.of(H:List j5):List AV->Option kH
 |[c0,c1,c2,c3,c4,c5,c6]=>(dL kz.row H c0).bind fun x0=>(dL kC.row H c1).bind fun x1=>(dL kW H c2).bind fun x2=>(dL kW H c3).bind fun x3=>(dL jR.row H c4).bind fun x4=>(dL kW H c5).bind fun x5=>(dL kW H c6).bind fun x6=>some (.mk x0 x1 x2 x3 x4 x5 x6)
 |_=>none
def kH.mY{c0 c1 c2 c3 c4 c5 c6:AV}:kH.of H [c0,c1,c2,c3,c4,c5,c6]=(dL kz.row H c0).bind fun x0=>(dL kC.row H c1).bind fun x1=>(dL kW H c2).bind fun x2=>(dL kW H c3).bind fun x3=>(dL jR.row H c4).bind fun x4=>(dL kW H c5).bind fun x5=>(dL kW H c6).bind fun x6=>some (.mk x0 x1 x2 x3 x4 x5 x6):=rfl
def kH.kR(H:List j5)(x:kH):kH.of H [.kF false 23 (mp kz.cells x.env),.kF false 2 (mp kC.cells x.wX),.kF false 1 (mp kX x.Cy),.kF false 1 (mp kX x.instances),.kF false 4 (mp jR.cells x.sW),.kF false 1 (mp kX x.sB),.kF false 1 (mp kX x.opens)]=some x:=by
 simp only[kH.mY,wz,tw,BD,nO,Af,beq_self_eq_true,fy,jE,dL,kz.lU,kz.row,kC.lU,kC.row,jR.lU,jR.row,ye,Zu]
 try (cases x;rfl)
theorem kH.l9(H:List j5)(x:kH):kH.of H x.cells=some x:=by rw[kH.jV];exact kH.kR H x
def kH.nI{x:kH}(h:kH.of H cs=some x):lO H n cs x.cells:=by
 unfold kH.of at h;split at h
 ·simp only[fp,fq]at h;obtain⟨x0,h0,x1,h1,x2,h2,x3,h3,x4,h4,x5,h5,x6,h6,rfl⟩:=h;rw[kH.kN];exact(lO.cons (wh h0) (lO.cons (wh h1) (lO.cons (wh h2) (lO.cons (wh h3) (lO.cons (wh h4) (lO.cons (wh h5) (lO.cons (wh h6) lO.nil)))))))
 ·cases h
def kH.kv:QU kH:=⟨kH.cells,kH.of,fun _ _ _ _ h=>kH.nI h,kH.nb⟩
def kH.row:Row kH:=⟨kH.cells,kH.of [],7,fun _ _ h=>(kH.nI (n:=0) h).nG,kH.nb⟩
def kH.sN:kH.row.enc=kH.cells/\kH.row.mH=kH.of []/\kH.row.sz=7/\kH.kv.enc=kH.cells/\kH.kv.mH=kH.of:=⟨rfl,rfl,rfl,rfl,rfl⟩
def kH.eta(x:kH):kH.mk x.env x.wX x.Cy x.instances x.sW x.sB x.opens=x:=by cases x;rfl
attribute [go_sem] kH.mY kH.l9 kH.sN kH.eta
def kH.Sp:(∀(y0:List kz)(y1:List kC)(y2:List kj)(y3:List kj)(y4:List jR)(y5:List kj)(y6:List kj),(kH.mk y0 y1 y2 y3 y4 y5 y6).env=y0)/\(∀(y0:List kz)(y1:List kC)(y2:List kj)(y3:List kj)(y4:List jR)(y5:List kj)(y6:List kj),(kH.mk y0 y1 y2 y3 y4 y5 y6).wX=y1)/\(∀(y0:List kz)(y1:List kC)(y2:List kj)(y3:List kj)(y4:List jR)(y5:List kj)(y6:List kj),(kH.mk y0 y1 y2 y3 y4 y5 y6).Cy=y2)/\(∀(y0:List kz)(y1:List kC)(y2:List kj)(y3:List kj)(y4:List jR)(y5:List kj)(y6:List kj),(kH.mk y0 y1 y2 y3 y4 y5 y6).instances=y3)/\(∀(y0:List kz)(y1:List kC)(y2:List kj)(y3:List kj)(y4:List jR)(y5:List kj)(y6:List kj),(kH.mk y0 y1 y2 y3 y4 y5 y6).sW=y4)/\(∀(y0:List kz)(y1:List kC)(y2:List kj)(y3:List kj)(y4:List jR)(y5:List kj)(y6:List kj),(kH.mk y0 y1 y2 y3 y4 y5 y6).sB=y5)/\(∀(y0:List kz)(y1:List kC)(y2:List kj)(y3:List kj)(y4:List jR)(y5:List kj)(y6:List kj),(kH.mk y0 y1 y2 y3 y4 y5 y6).opens=y6):=⟨fun _ _ _ _ _ _ _=>rfl,fun _ _ _ _ _ _ _=>rfl,fun _ _ _ _ _ _ _=>rfl,fun _ _ _ _ _ _ _=>rfl,fun _ _ _ _ _ _ _=>rfl,fun _ _ _ _ _ _ _=>rfl,fun _ _ _ _ _ _ _=>rfl⟩
attribute [go_sem] kH.Sp
def kH.nbs:(∀(n:Nat)(x:kH),Go.Abs.uc n x.cells=True)/\∀(n:Nat)(xs:List kH),Go.Abs.Jv n (mp kH.cells xs)=True:=⟨fun n x=>eq_true (kH.nb n x),fun n xs=>eq_true (my (kH.nb n) xs)⟩
def kH.ag5:(∀(Y:Nat->Nat)(x:kH),s6 Y x.cells=x.cells)/\∀(Y:Nat->Nat)(xs:List kH),GB Y (mp kH.cells xs)=mp kH.cells xs:=⟨fun Y x=>q6 Y _ (kH.nb 0 x),fun Y xs=>vz Y _ (my (kH.nb 0) xs)⟩
def kH.vw(H:List j5)(x:kH):vwL H x.cells=some (x.cells,[]):=Ag H _ (kH.nb 0 x)
attribute [go_sem] kH.vw
def kH.rpv(l:Nat)(ds:List AV)(x:kH):x.cells.map (rpV l ds)=x.cells:=VS _ (kH.nb 0 x)
attribute [go_sem] kH.rpv
def kH.tk:(∀x:kH,List.take 7 x.cells=x.cells)/\∀x:kH,List.drop 7 x.cells=[]:=⟨fun x=>by rw[kH.jV];rfl,fun x=>by rw[kH.jV];rfl⟩
attribute [go_sem] kH.tk
def kH.reads:
 (∀x:kH,cellsOf (.agg x.cells)=some x.cells)/\
 (∀x:kH,kr true 7 x.cells=some (.agg x.cells))/\
 (∀x:kH,kr false 1 x.cells=some (.kF false 23 (mp kz.cells x.env)))/\
 (∀x:kH,kr false 1 (x.cells.drop 1)=some (.kF false 2 (mp kC.cells x.wX)))/\
 (∀x:kH,kr false 1 (x.cells.drop 2)=some (.kF false 1 (mp kX x.Cy)))/\
 (∀x:kH,kr false 1 (x.cells.drop 3)=some (.kF false 1 (mp kX x.instances)))/\
 (∀x:kH,kr false 1 (x.cells.drop 4)=some (.kF false 4 (mp jR.cells x.sW)))/\
 (∀x:kH,kr false 1 (x.cells.drop 5)=some (.kF false 1 (mp kX x.sB)))/\
 (∀x:kH,kr false 1 (x.cells.drop 6)=some (.kF false 1 (mp kX x.opens))):=
 ⟨fun x=>by simp only[cellsOf,kH.lI,jM],
  fun x=>ql (kH.length x),
  fun x=>by rw[kH.jV];rfl,
  fun x=>by rw[kH.jV];rfl,
  fun x=>by rw[kH.jV];rfl,
  fun x=>by rw[kH.jV];rfl,
  fun x=>by rw[kH.jV];rfl,
  fun x=>by rw[kH.jV];rfl,
  fun x=>by rw[kH.jV];rfl⟩
theorem kH.app(x:kH)(l:List AV):x.cells++l=(.kF false 23 (mp kz.cells x.env):AV)::(.kF false 2 (mp kC.cells x.wX):AV)::(.kF false 1 (mp kX x.Cy):AV)::(.kF false 1 (mp kX x.instances):AV)::(.kF false 4 (mp jR.cells x.sW):AV)::(.kF false 1 (mp kX x.sB):AV)::(.kF false 1 (mp kX x.opens):AV)::l:=by rw[kH.jV];rfl
attribute [go_sem] kH.app kH.nbs kH.ag5 kH.reads kH.length kH.lI
structure ky where
 st:kH
 kg:List kj
 mA:List kj
 term:jW
def ky.cells(x:ky):List AV:=x.st.cells++[.kF false 1 (mp kX x.kg),.kF false 1 (mp kX x.mA)]++x.term.cells
theorem ky.kN(x:ky):x.cells=x.st.cells++[.kF false 1 (mp kX x.kg),.kF false 1 (mp kX x.mA)]++x.term.cells:=rfl
theorem ky.jV(x:ky):x.cells=[.kF false 23 (mp kz.cells x.st.env),.kF false 2 (mp kC.cells x.st.wX),.kF false 1 (mp kX x.st.Cy),.kF false 1 (mp kX x.st.instances),.kF false 4 (mp jR.cells x.st.sW),.kF false 1 (mp kX x.st.sB),.kF false 1 (mp kX x.st.opens),.kF false 1 (mp kX x.kg),.kF false 1 (mp kX x.mA),.int .i64 x.term.kind,.int .i64 x.term.index,.str (sb x.term.name),.kF false 2 (mp kA.cells x.term.kg),.kF false 5 (mp jW.cells x.term.kI)]:=by
 simp only[ky.cells,kH.jV,jW.jV,fB,fC,fD]
attribute [irreducible] ky.cells
theorem ky.length(x:ky):x.cells.length=14:=by rw[ky.jV];rfl
def ky.lI(x:ky):x.cells.all AV.lI=true:=by rw[ky.jV];rfl
theorem ky.nb(n:Nat)(x:ky):uc n x.cells:=by
 rw[ky.kN];exact(pz (pz (kH.nb n x.st) ⟨my (wA n) _,my (wA n) _,trivial⟩) (jW.nb n x.term))
def ky.of(H:List j5):List AV->Option ky
 |[c0,c1,c2,c3,c4,c5,c6,c7,c8,c9,c10,c11,c12,c13]=>(kH.of H [c0,c1,c2,c3,c4,c5,c6]).bind fun x0=>(dL kW H c7).bind fun x1=>(dL kW H c8).bind fun x2=>(jW.of H [c9,c10,c11,c12,c13]).bind fun x3=>some (.mk x0 x1 x2 x3)
 |_=>none
def ky.mY {c0 c1 c2 c3 c4 c5 c6:AV}:ky.of H [c0,c1,c2,c3,c4,c5,c6,c7,c8,c9,c10,c11,c12,c13]=(kH.of H [c0,c1,c2,c3,c4,c5,c6]).bind fun x0=>(dL kW H c7).bind fun x1=>(dL kW H c8).bind fun x2=>(jW.of H [c9,c10,c11,c12,c13]).bind fun x3=>some (.mk x0 x1 x2 x3):=rfl
def ky.kR(H:List j5)(x:ky):ky.of H [.kF false 23 (mp kz.cells x.st.env),.kF false 2 (mp kC.cells x.st.wX),.kF false 1 (mp kX x.st.Cy),.kF false 1 (mp kX x.st.instances),.kF false 4 (mp jR.cells x.st.sW),.kF false 1 (mp kX x.st.sB),.kF false 1 (mp kX x.st.opens),.kF false 1 (mp kX x.kg),.kF false 1 (mp kX x.mA),.int .i64 x.term.kind,.int .i64 x.term.index,.str (sb x.term.name),.kF false 2 (mp kA.cells x.term.kg),.kF false 5 (mp jW.cells x.term.kI)]=some x:=by
 simp only[ky.mY,wz,tw,BD,nO,Af,beq_self_eq_true,fy,jE,dL,ye,Zu,kH.kR,jW.kR]
 try (cases x;rfl)
theorem ky.l9(H:List j5)(x:ky):ky.of H x.cells=some x:=by rw[ky.jV];exact ky.kR H x
def ky.nI{x:ky}(h:ky.of H cs=some x):lO H n cs x.cells:=by
 unfold ky.of at h;split at h
 ·simp only[fp,fq]at h;obtain⟨x0,h0,x1,h1,x2,h2,x3,h3,rfl⟩:=h;rw[ky.kN];exact(lO.append (lO.append (kH.nI h0) (lO.cons (wh h1) (lO.cons (wh h2) lO.nil))) (jW.nI h3))
 ·cases h
def ky.kv:QU ky:=⟨ky.cells,ky.of,fun _ _ _ _ h=>ky.nI h,ky.nb⟩
def ky.row:Row ky:=⟨ky.cells,ky.of [],14,fun _ _ h=>(ky.nI (n:=0) h).nG,ky.nb⟩
def ky.sN:ky.row.enc=ky.cells/\ky.row.mH=ky.of []/\ky.row.sz=14/\ky.kv.enc=ky.cells/\ky.kv.mH=ky.of:=⟨rfl,rfl,rfl,rfl,rfl⟩
attribute [go_sem] ky.mY ky.l9 ky.sN
def ky.Sp:(∀(y0:kH)(y1:List kj)(y2:List kj)(y3:jW),(ky.mk y0 y1 y2 y3).st=y0)/\(∀(y0:kH)(y1:List kj)(y2:List kj)(y3:jW),(ky.mk y0 y1 y2 y3).kg=y1)/\(∀(y0:kH)(y1:List kj)(y2:List kj)(y3:jW),(ky.mk y0 y1 y2 y3).mA=y2)/\(∀(y0:kH)(y1:List kj)(y2:List kj)(y3:jW),(ky.mk y0 y1 y2 y3).term=y3):=⟨fun _ _ _ _=>rfl,fun _ _ _ _=>rfl,fun _ _ _ _=>rfl,fun _ _ _ _=>rfl⟩
attribute [go_sem] ky.Sp
def ky.vw(H:List j5)(x:ky):vwL H x.cells=some (x.cells,[]):=Ag H _ (ky.nb 0 x)
attribute [go_sem] ky.vw
def ky.reads:
 (∀x:ky,cellsOf (.agg x.cells)=some x.cells)/\
 (∀x:ky,kr true 14 x.cells=some (.agg x.cells))/\
 (∀x:ky,kr false 1 x.cells=some (.kF false 23 (mp kz.cells x.st.env)))/\
 (∀x:ky,kr false 1 (x.cells.drop 1)=some (.kF false 2 (mp kC.cells x.st.wX)))/\
 (∀x:ky,kr false 1 (x.cells.drop 2)=some (.kF false 1 (mp kX x.st.Cy)))/\
 (∀x:ky,kr false 1 (x.cells.drop 3)=some (.kF false 1 (mp kX x.st.instances)))/\
 (∀x:ky,kr false 1 (x.cells.drop 4)=some (.kF false 4 (mp jR.cells x.st.sW)))/\
 (∀x:ky,kr false 1 (x.cells.drop 5)=some (.kF false 1 (mp kX x.st.sB)))/\
 (∀x:ky,kr false 1 (x.cells.drop 6)=some (.kF false 1 (mp kX x.st.opens)))/\
 (∀x:ky,kr false 1 (x.cells.drop 7)=some (.kF false 1 (mp kX x.kg)))/\
 (∀x:ky,kr false 1 (x.cells.drop 8)=some (.kF false 1 (mp kX x.mA)))/\
 (∀x:ky,kr false 1 (x.cells.drop 9)=some (.int .i64 x.term.kind))/\
 (∀x:ky,kr false 1 (x.cells.drop 10)=some (.int .i64 x.term.index))/\
 (∀x:ky,kr false 1 (x.cells.drop 11)=some (.str (sb x.term.name)))/\
 (∀x:ky,kr false 1 (x.cells.drop 12)=some (.kF false 2 (mp kA.cells x.term.kg)))/\
 (∀x:ky,kr false 1 (x.cells.drop 13)=some (.kF false 5 (mp jW.cells x.term.kI)))/\
 (∀x:ky,kr true 7 x.cells=some (.agg x.st.cells))/\
 (∀x:ky,kr true 5 (x.cells.drop 9)=some (.agg x.term.cells)):=
 ⟨fun x=>by simp only[cellsOf,ky.lI,jM],
  fun x=>ql (ky.length x),
  fun x=>by rw[ky.jV];rfl,
  fun x=>by rw[ky.jV];rfl,
  fun x=>by rw[ky.jV];rfl,
  fun x=>by rw[ky.jV];rfl,
  fun x=>by rw[ky.jV];rfl,
  fun x=>by rw[ky.jV];rfl,
  fun x=>by rw[ky.jV];rfl,
  fun x=>by rw[ky.jV];rfl,
  fun x=>by rw[ky.jV];rfl,
  fun x=>by rw[ky.jV];rfl,
  fun x=>by rw[ky.jV];rfl,
  fun x=>by rw[ky.jV];rfl,
  fun x=>by rw[ky.jV];rfl,
  fun x=>by rw[ky.jV];rfl,
  fun x=>by rw[ky.jV];simp only[kH.jV,jW.jV,fx,fA];rfl,
  fun x=>by rw[ky.jV];simp only[kH.jV,jW.jV,fx,fA];rfl⟩
attribute [go_sem] ky.reads ky.length ky.lI
structure Entry where
 kind:Int
 abk:Int
 ag7:Int
 params:Int
 type:jW
def Entry.cells(x:Entry):List AV:=[.int .i64 x.kind,.int .i64 x.abk,.int .i64 x.ag7,.int .i64 x.params]++x.type.cells
theorem Entry.kN(x:Entry):x.cells=[.int .i64 x.kind,.int .i64 x.abk,.int .i64 x.ag7,.int .i64 x.params]++x.type.cells:=rfl
theorem Entry.jV(x:Entry):x.cells=[.int .i64 x.kind,.int .i64 x.abk,.int .i64 x.ag7,.int .i64 x.params,.int .i64 x.type.kind,.int .i64 x.type.index,.str (sb x.type.name),.kF false 2 (mp kA.cells x.type.kg),.kF false 5 (mp jW.cells x.type.kI)]:=by
 simp only[Entry.cells,jW.jV,fB,fC,fD]
attribute [irreducible] Entry.cells
theorem Entry.length(x:Entry):x.cells.length=9:=by rw[Entry.jV];rfl
def Entry.lI(x:Entry):x.cells.all AV.lI=true:=by rw[Entry.jV];rfl
theorem Entry.nb(n:Nat)(x:Entry):uc n x.cells:=by
 rw[Entry.kN];exact(pz ⟨trivial,trivial,trivial,trivial,trivial⟩ (jW.nb n x.type))
def Entry.of(H:List j5):List AV->Option Entry
 |[c0,c1,c2,c3,c4,c5,c6,c7,c8]=>(dI .i64 c0).bind fun x0=>(dI .i64 c1).bind fun x1=>(dI .i64 c2).bind fun x2=>(dI .i64 c3).bind fun x3=>(jW.of H [c4,c5,c6,c7,c8]).bind fun x4=>some (.mk x0 x1 x2 x3 x4)
 |_=>none
def Entry.mY {c0 c1 c2 c3 c4 c5 c6:AV}:Entry.of H [c0,c1,c2,c3,c4,c5,c6,c7,c8]=(dI .i64 c0).bind fun x0=>(dI .i64 c1).bind fun x1=>(dI .i64 c2).bind fun x2=>(dI .i64 c3).bind fun x3=>(jW.of H [c4,c5,c6,c7,c8]).bind fun x4=>some (.mk x0 x1 x2 x3 x4):=rfl
def Entry.kR(H:List j5)(x:Entry):Entry.of H [.int .i64 x.kind,.int .i64 x.abk,.int .i64 x.ag7,.int .i64 x.params,.int .i64 x.type.kind,.int .i64 x.type.index,.str (sb x.type.name),.kF false 2 (mp kA.cells x.type.kg),.kF false 5 (mp jW.cells x.type.kI)]=some x:=by
 simp only[Entry.mY,wz,tw,BD,nO,Af,beq_self_eq_true,fy,jE,dL,jW.kR]
 try (cases x;rfl)
theorem Entry.l9(H:List j5)(x:Entry):Entry.of H x.cells=some x:=by rw[Entry.jV];exact Entry.kR H x
def Entry.nI{x:Entry}(h:Entry.of H cs=some x):lO H n cs x.cells:=by
 unfold Entry.of at h;split at h
 ·simp only[fp,fq]at h;obtain⟨x0,h0,x1,h1,x2,h2,x3,h3,x4,h4,rfl⟩:=h;rw[Entry.kN];exact(lO.append (lO.cons (ut h0) (lO.cons (ut h1) (lO.cons (ut h2) (lO.cons (ut h3) lO.nil)))) (jW.nI h4))
 ·cases h
def Entry.kv:QU Entry:=⟨Entry.cells,Entry.of,fun _ _ _ _ h=>Entry.nI h,Entry.nb⟩
def Entry.row:Row Entry:=⟨Entry.cells,Entry.of [],9,fun _ _ h=>(Entry.nI (n:=0) h).nG,Entry.nb⟩
def Entry.sN:Entry.row.enc=Entry.cells/\Entry.row.mH=Entry.of []/\Entry.row.sz=9/\Entry.kv.enc=Entry.cells/\Entry.kv.mH=Entry.of:=⟨rfl,rfl,rfl,rfl,rfl⟩
attribute [go_sem] Entry.mY Entry.l9 Entry.sN
def Entry.Sp:(∀(y0:Int)(y1:Int)(y2:Int)(y3:Int)(y4:jW),(Entry.mk y0 y1 y2 y3 y4).kind=y0)/\(∀(y0:Int)(y1:Int)(y2:Int)(y3:Int)(y4:jW),(Entry.mk y0 y1 y2 y3 y4).abk=y1)/\(∀(y0:Int)(y1:Int)(y2:Int)(y3:Int)(y4:jW),(Entry.mk y0 y1 y2 y3 y4).ag7=y2)/\(∀(y0:Int)(y1:Int)(y2:Int)(y3:Int)(y4:jW),(Entry.mk y0 y1 y2 y3 y4).params=y3)/\(∀(y0:Int)(y1:Int)(y2:Int)(y3:Int)(y4:jW),(Entry.mk y0 y1 y2 y3 y4).type=y4):=⟨fun _ _ _ _ _=>rfl,fun _ _ _ _ _=>rfl,fun _ _ _ _ _=>rfl,fun _ _ _ _ _=>rfl,fun _ _ _ _ _=>rfl⟩
attribute [go_sem] Entry.Sp
def Entry.nbs:(∀(n:Nat)(x:Entry),Go.Abs.uc n x.cells=True)/\∀(n:Nat)(xs:List Entry),Go.Abs.Jv n (mp Entry.cells xs)=True:=⟨fun n x=>eq_true (Entry.nb n x),fun n xs=>eq_true (my (Entry.nb n) xs)⟩
theorem Entry.frz(low:Nat)(H:List j5)(x:Entry):aqC low H x.cells=x.cells:=KM low H _ (Entry.nb 0 x)
def Entry.reads:
 (∀x:Entry,cellsOf (.agg x.cells)=some x.cells)/\
 (∀x:Entry,kr true 9 x.cells=some (.agg x.cells))/\
 (∀x:Entry,kr false 1 x.cells=some (.int .i64 x.kind))/\
 (∀x:Entry,kr false 1 (x.cells.drop 1)=some (.int .i64 x.abk))/\
 (∀x:Entry,kr false 1 (x.cells.drop 2)=some (.int .i64 x.ag7))/\
 (∀x:Entry,kr false 1 (x.cells.drop 3)=some (.int .i64 x.params))/\
 (∀x:Entry,kr false 1 (x.cells.drop 4)=some (.int .i64 x.type.kind))/\
 (∀x:Entry,kr false 1 (x.cells.drop 5)=some (.int .i64 x.type.index))/\
 (∀x:Entry,kr false 1 (x.cells.drop 6)=some (.str (sb x.type.name)))/\
 (∀x:Entry,kr false 1 (x.cells.drop 7)=some (.kF false 2 (mp kA.cells x.type.kg)))/\
 (∀x:Entry,kr false 1 (x.cells.drop 8)=some (.kF false 5 (mp jW.cells x.type.kI)))/\
 (∀x:Entry,kr true 5 (x.cells.drop 4)=some (.agg x.type.cells)):=
 ⟨fun x=>by simp only[cellsOf,Entry.lI,jM],
  fun x=>ql (Entry.length x),
  fun x=>by rw[Entry.jV];rfl,
  fun x=>by rw[Entry.jV];rfl,
  fun x=>by rw[Entry.jV];rfl,
  fun x=>by rw[Entry.jV];rfl,
  fun x=>by rw[Entry.jV];rfl,
  fun x=>by rw[Entry.jV];rfl,
  fun x=>by rw[Entry.jV];rfl,
  fun x=>by rw[Entry.jV];rfl,
  fun x=>by rw[Entry.jV];rfl,
  fun x=>by rw[Entry.jV];simp only[jW.jV,fx,fA];rfl⟩
attribute [go_sem] Entry.nbs Entry.frz Entry.reads Entry.length Entry.lI
structure kf where
 e:Int
 at_:Int
def kf.cells(x:kf):List AV:=[.int .i64 x.e,.int .i64 x.at_]
theorem kf.kN(x:kf):x.cells=[.int .i64 x.e,.int .i64 x.at_]:=rfl
theorem kf.jV(x:kf):x.cells=[.int .i64 x.e,.int .i64 x.at_]:=rfl
attribute [irreducible] kf.cells
theorem kf.length(x:kf):x.cells.length=2:=by rw[kf.jV];rfl
def kf.lI(x:kf):x.cells.all AV.lI=true:=by rw[kf.jV];rfl
theorem kf.nb(n:Nat)(x:kf):uc n x.cells:=by
 rw[kf.kN];exact⟨trivial,trivial,trivial⟩
def kf.of(H:List j5):List AV->Option kf
 |[c0,c1]=>(dI .i64 c0).bind fun x0=>(dI .i64 c1).bind fun x1=>some (.mk x0 x1)
 |_=>none
def kf.mY{c0 c1:AV}:kf.of H [c0,c1]=(dI .i64 c0).bind fun x0=>(dI .i64 c1).bind fun x1=>some (.mk x0 x1):=rfl
def kf.kR(H:List j5)(x:kf):kf.of H [.int .i64 x.e,.int .i64 x.at_]=some x:=by
 simp only[kf.mY,wz,tw,BD,nO,Af,beq_self_eq_true,fy,jE,dL]
 try (cases x;rfl)
theorem kf.l9(H:List j5)(x:kf):kf.of H x.cells=some x:=by rw[kf.jV];exact kf.kR H x
def kf.nI{x:kf}(h:kf.of H cs=some x):lO H n cs x.cells:=by
 unfold kf.of at h;split at h
 ·simp only[fp,fq]at h;obtain⟨x0,h0,x1,h1,rfl⟩:=h;rw[kf.kN];exact(lO.cons (ut h0) (lO.cons (ut h1) lO.nil))
 ·cases h
def kf.kv:QU kf:=⟨kf.cells,kf.of,fun _ _ _ _ h=>kf.nI h,kf.nb⟩
def kf.row:Row kf:=⟨kf.cells,kf.of [],2,fun _ _ h=>(kf.nI (n:=0) h).nG,kf.nb⟩
def kf.sN:kf.row.enc=kf.cells/\kf.row.mH=kf.of []/\kf.row.sz=2/\kf.kv.enc=kf.cells/\kf.kv.mH=kf.of:=⟨rfl,rfl,rfl,rfl,rfl⟩
attribute [go_sem] kf.mY kf.l9 kf.sN
def kf.Sp:(∀(y0:Int)(y1:Int),(kf.mk y0 y1).e=y0)/\(∀(y0:Int)(y1:Int),(kf.mk y0 y1).at_=y1):=⟨fun _ _=>rfl,fun _ _=>rfl⟩
attribute [go_sem] kf.Sp
def kf.ag5:(∀(Y:Nat->Nat)(x:kf),s6 Y x.cells=x.cells)/\∀(Y:Nat->Nat)(xs:List kf),GB Y (mp kf.cells xs)=mp kf.cells xs:=⟨fun Y x=>q6 Y _ (kf.nb 0 x),fun Y xs=>vz Y _ (my (kf.nb 0) xs)⟩
def kf.vw(H:List j5)(x:kf):vwL H x.cells=some (x.cells,[]):=Ag H _ (kf.nb 0 x)
attribute [go_sem] kf.vw
def kf.reads:
 (∀x:kf,cellsOf (.agg x.cells)=some x.cells)/\
 (∀x:kf,kr true 2 x.cells=some (.agg x.cells))/\
 (∀x:kf,kr false 1 x.cells=some (.int .i64 x.e))/\
 (∀x:kf,kr false 1 (x.cells.drop 1)=some (.int .i64 x.at_)):=
 ⟨fun x=>by simp only[cellsOf,kf.lI,jM],
  fun x=>ql (kf.length x),
  fun x=>by rw[kf.jV];rfl,
  fun x=>by rw[kf.jV];rfl⟩
attribute [go_sem] kf.ag5 kf.reads kf.length kf.lI
structure j3 where
 st:kH
 IL:List kj
 kg:List kj
 AA:List kj
 I8:List kj
def j3.cells(x:j3):List AV:=x.st.cells++[.kF false 1 (mp kX x.IL),.kF false 1 (mp kX x.kg),.kF false 1 (mp kX x.AA),.kF false 1 (mp kX x.I8)]
theorem j3.kN(x:j3):x.cells=x.st.cells++[.kF false 1 (mp kX x.IL),.kF false 1 (mp kX x.kg),.kF false 1 (mp kX x.AA),.kF false 1 (mp kX x.I8)]:=rfl
theorem j3.jV(x:j3):x.cells=[.kF false 23 (mp kz.cells x.st.env),.kF false 2 (mp kC.cells x.st.wX),.kF false 1 (mp kX x.st.Cy),.kF false 1 (mp kX x.st.instances),.kF false 4 (mp jR.cells x.st.sW),.kF false 1 (mp kX x.st.sB),.kF false 1 (mp kX x.st.opens),.kF false 1 (mp kX x.IL),.kF false 1 (mp kX x.kg),.kF false 1 (mp kX x.AA),.kF false 1 (mp kX x.I8)]:=by
 simp only[j3.cells,kH.jV,fB,fC,fD]
attribute [irreducible] j3.cells
theorem j3.length(x:j3):x.cells.length=11:=by rw[j3.jV];rfl
def j3.lI(x:j3):x.cells.all AV.lI=true:=by rw[j3.jV];rfl
theorem j3.nb(n:Nat)(x:j3):uc n x.cells:=by
 rw[j3.kN];exact(pz (kH.nb n x.st) ⟨my (wA n) _,my (wA n) _,my (wA n) _,my (wA n) _,trivial⟩)
def j3.of(H:List j5):List AV->Option j3
 |[c0,c1,c2,c3,c4,c5,c6,c7,c8,c9,c10]=>(kH.of H [c0,c1,c2,c3,c4,c5,c6]).bind fun x0=>(dL kW H c7).bind fun x1=>(dL kW H c8).bind fun x2=>(dL kW H c9).bind fun x3=>(dL kW H c10).bind fun x4=>some (.mk x0 x1 x2 x3 x4)
 |_=>none
def j3.mY {c0 c1 c2 c3 c4 c5 c6:AV}:j3.of H [c0,c1,c2,c3,c4,c5,c6,c7,c8,c9,c10]=(kH.of H [c0,c1,c2,c3,c4,c5,c6]).bind fun x0=>(dL kW H c7).bind fun x1=>(dL kW H c8).bind fun x2=>(dL kW H c9).bind fun x3=>(dL kW H c10).bind fun x4=>some (.mk x0 x1 x2 x3 x4):=rfl
def j3.kR(H:List j5)(x:j3):j3.of H [.kF false 23 (mp kz.cells x.st.env),.kF false 2 (mp kC.cells x.st.wX),.kF false 1 (mp kX x.st.Cy),.kF false 1 (mp kX x.st.instances),.kF false 4 (mp jR.cells x.st.sW),.kF false 1 (mp kX x.st.sB),.kF false 1 (mp kX x.st.opens),.kF false 1 (mp kX x.IL),.kF false 1 (mp kX x.kg),.kF false 1 (mp kX x.AA),.kF false 1 (mp kX x.I8)]=some x:=by
 simp only[j3.mY,wz,tw,BD,nO,Af,beq_self_eq_true,fy,jE,dL,ye,Zu,kH.kR]
 try (cases x;rfl)
theorem j3.l9(H:List j5)(x:j3):j3.of H x.cells=some x:=by rw[j3.jV];exact j3.kR H x
def j3.nI{x:j3}(h:j3.of H cs=some x):lO H n cs x.cells:=by
 unfold j3.of at h;split at h
 ·simp only[fp,fq]at h;obtain⟨x0,h0,x1,h1,x2,h2,x3,h3,x4,h4,rfl⟩:=h;rw[j3.kN];exact(lO.append (kH.nI h0) (lO.cons (wh h1) (lO.cons (wh h2) (lO.cons (wh h3) (lO.cons (wh h4) lO.nil)))))
 ·cases h
def j3.kv:QU j3:=⟨j3.cells,j3.of,fun _ _ _ _ h=>j3.nI h,j3.nb⟩
def j3.row:Row j3:=⟨j3.cells,j3.of [],11,fun _ _ h=>(j3.nI (n:=0) h).nG,j3.nb⟩
def j3.sN:j3.row.enc=j3.cells/\j3.row.mH=j3.of []/\j3.row.sz=11/\j3.kv.enc=j3.cells/\j3.kv.mH=j3.of:=⟨rfl,rfl,rfl,rfl,rfl⟩
attribute [go_sem] j3.mY j3.l9 j3.sN
def j3.Sp:(∀(y0:kH)(y1:List kj)(y2:List kj)(y3:List kj)(y4:List kj),(j3.mk y0 y1 y2 y3 y4).st=y0)/\(∀(y0:kH)(y1:List kj)(y2:List kj)(y3:List kj)(y4:List kj),(j3.mk y0 y1 y2 y3 y4).IL=y1)/\(∀(y0:kH)(y1:List kj)(y2:List kj)(y3:List kj)(y4:List kj),(j3.mk y0 y1 y2 y3 y4).kg=y2)/\(∀(y0:kH)(y1:List kj)(y2:List kj)(y3:List kj)(y4:List kj),(j3.mk y0 y1 y2 y3 y4).AA=y3)/\(∀(y0:kH)(y1:List kj)(y2:List kj)(y3:List kj)(y4:List kj),(j3.mk y0 y1 y2 y3 y4).I8=y4):=⟨fun _ _ _ _ _=>rfl,fun _ _ _ _ _=>rfl,fun _ _ _ _ _=>rfl,fun _ _ _ _ _=>rfl,fun _ _ _ _ _=>rfl⟩
attribute [go_sem] j3.Sp
def j3.nbs:(∀(n:Nat)(x:j3),Go.Abs.uc n x.cells=True)/\∀(n:Nat)(xs:List j3),Go.Abs.Jv n (mp j3.cells xs)=True:=⟨fun n x=>eq_true (j3.nb n x),fun n xs=>eq_true (my (j3.nb n) xs)⟩
def j3.reads:
 (∀x:j3,cellsOf (.agg x.cells)=some x.cells)/\
 (∀x:j3,kr true 11 x.cells=some (.agg x.cells))/\
 (∀x:j3,kr false 1 x.cells=some (.kF false 23 (mp kz.cells x.st.env)))/\
 (∀x:j3,kr false 1 (x.cells.drop 1)=some (.kF false 2 (mp kC.cells x.st.wX)))/\
 (∀x:j3,kr false 1 (x.cells.drop 2)=some (.kF false 1 (mp kX x.st.Cy)))/\
 (∀x:j3,kr false 1 (x.cells.drop 3)=some (.kF false 1 (mp kX x.st.instances)))/\
 (∀x:j3,kr false 1 (x.cells.drop 4)=some (.kF false 4 (mp jR.cells x.st.sW)))/\
 (∀x:j3,kr false 1 (x.cells.drop 5)=some (.kF false 1 (mp kX x.st.sB)))/\
 (∀x:j3,kr false 1 (x.cells.drop 6)=some (.kF false 1 (mp kX x.st.opens)))/\
 (∀x:j3,kr false 1 (x.cells.drop 7)=some (.kF false 1 (mp kX x.IL)))/\
 (∀x:j3,kr false 1 (x.cells.drop 8)=some (.kF false 1 (mp kX x.kg)))/\
 (∀x:j3,kr false 1 (x.cells.drop 9)=some (.kF false 1 (mp kX x.AA)))/\
 (∀x:j3,kr false 1 (x.cells.drop 10)=some (.kF false 1 (mp kX x.I8)))/\
 (∀x:j3,kr true 7 x.cells=some (.agg x.st.cells)):=
 ⟨fun x=>by simp only[cellsOf,j3.lI,jM],
  fun x=>ql (j3.length x),
  fun x=>by rw[j3.jV];rfl,
  fun x=>by rw[j3.jV];rfl,
  fun x=>by rw[j3.jV];rfl,
  fun x=>by rw[j3.jV];rfl,
  fun x=>by rw[j3.jV];rfl,
  fun x=>by rw[j3.jV];rfl,
  fun x=>by rw[j3.jV];rfl,
  fun x=>by rw[j3.jV];rfl,
  fun x=>by rw[j3.jV];rfl,
  fun x=>by rw[j3.jV];rfl,
  fun x=>by rw[j3.jV];rfl,
  fun x=>by rw[j3.jV];simp only[kH.jV,fx,fA];rfl⟩
attribute [go_sem] j3.nbs j3.reads j3.length j3.lI
structure lV where
 st:kH
 kg:List kj
 AA:List kj
 I8:List kj
def lV.cells(x:lV):List AV:=x.st.cells++[.kF false 1 (mp kX x.kg),.kF false 1 (mp kX x.AA),.kF false 1 (mp kX x.I8)]
theorem lV.kN(x:lV):x.cells=x.st.cells++[.kF false 1 (mp kX x.kg),.kF false 1 (mp kX x.AA),.kF false 1 (mp kX x.I8)]:=rfl
attribute [irreducible] lV.cells
theorem lV.nb(n:Nat)(x:lV):uc n x.cells:=by
 rw[lV.kN];exact(pz (kH.nb n x.st) ⟨my (wA n) _,my (wA n) _,my (wA n) _,trivial⟩)
def lV.of(H:List j5):List AV->Option lV
 |[c0,c1,c2,c3,c4,c5,c6,c7,c8,c9]=>(kH.of H [c0,c1,c2,c3,c4,c5,c6]).bind fun x0=>(dL kW H c7).bind fun x1=>(dL kW H c8).bind fun x2=>(dL kW H c9).bind fun x3=>some (.mk x0 x1 x2 x3)
 |_=>none
def lV.mY {c0 c1 c2 c3 c4 c5 c6:AV}:lV.of H [c0,c1,c2,c3,c4,c5,c6,c7,c8,c9]=(kH.of H [c0,c1,c2,c3,c4,c5,c6]).bind fun x0=>(dL kW H c7).bind fun x1=>(dL kW H c8).bind fun x2=>(dL kW H c9).bind fun x3=>some (.mk x0 x1 x2 x3):=rfl
def lV.nI{x:lV}(h:lV.of H cs=some x):lO H n cs x.cells:=by
 unfold lV.of at h;split at h
 ·simp only[fp,fq]at h;obtain⟨x0,h0,x1,h1,x2,h2,x3,h3,rfl⟩:=h;rw[lV.kN];exact(lO.append (kH.nI h0) (lO.cons (wh h1) (lO.cons (wh h2) (lO.cons (wh h3) lO.nil))))
 ·cases h
def lV.kv:QU lV:=⟨lV.cells,lV.of,fun _ _ _ _ h=>lV.nI h,lV.nb⟩
def lV.row:Row lV:=⟨lV.cells,lV.of [],10,fun _ _ h=>(lV.nI (n:=0) h).nG,lV.nb⟩
def lV.sN:lV.row.enc=lV.cells/\lV.row.mH=lV.of []/\lV.row.sz=10/\lV.kv.enc=lV.cells/\lV.kv.mH=lV.of:=⟨rfl,rfl,rfl,rfl,rfl⟩
attribute [go_sem] lV.mY lV.sN
def lV.Sp:(∀(y0:kH)(y1:List kj)(y2:List kj)(y3:List kj),(lV.mk y0 y1 y2 y3).st=y0)/\(∀(y0:kH)(y1:List kj)(y2:List kj)(y3:List kj),(lV.mk y0 y1 y2 y3).kg=y1)/\(∀(y0:kH)(y1:List kj)(y2:List kj)(y3:List kj),(lV.mk y0 y1 y2 y3).AA=y2)/\(∀(y0:kH)(y1:List kj)(y2:List kj)(y3:List kj),(lV.mk y0 y1 y2 y3).I8=y3):=⟨fun _ _ _ _=>rfl,fun _ _ _ _=>rfl,fun _ _ _ _=>rfl,fun _ _ _ _=>rfl⟩
attribute [go_sem] lV.Sp
structure lz where
 kind:Int
 text:kj
 at_:Int
def lz.cells(x:lz):List AV:=[.int .i64 x.kind,.str (sb x.text),.int .i64 x.at_]
theorem lz.kN(x:lz):x.cells=[.int .i64 x.kind,.str (sb x.text),.int .i64 x.at_]:=rfl
theorem lz.jV(x:lz):x.cells=[.int .i64 x.kind,.str (sb x.text),.int .i64 x.at_]:=rfl
attribute [irreducible] lz.cells
theorem lz.length(x:lz):x.cells.length=3:=by rw[lz.jV];rfl
def lz.lI(x:lz):x.cells.all AV.lI=true:=by rw[lz.jV];rfl
theorem lz.nb(n:Nat)(x:lz):uc n x.cells:=by
 rw[lz.kN];exact⟨trivial,trivial,trivial,trivial⟩
def lz.of(H:List j5):List AV->Option lz
 |[c0,c1,c2]=>(dI .i64 c0).bind fun x0=>(dS c1).bind fun x1=>(dI .i64 c2).bind fun x2=>some (.mk x0 x1 x2)
 |_=>none
def lz.mY{c0 c1 c2:AV}:lz.of H [c0,c1,c2]=(dI .i64 c0).bind fun x0=>(dS c1).bind fun x1=>(dI .i64 c2).bind fun x2=>some (.mk x0 x1 x2):=rfl
def lz.kR(H:List j5)(x:lz):lz.of H [.int .i64 x.kind,.str (sb x.text),.int .i64 x.at_]=some x:=by
 simp only[lz.mY,wz,tw,BD,nO,Af,beq_self_eq_true,fy,jE,dL]
 try (cases x;rfl)
theorem lz.l9(H:List j5)(x:lz):lz.of H x.cells=some x:=by rw[lz.jV];exact lz.kR H x
def lz.nI{x:lz}(h:lz.of H cs=some x):lO H n cs x.cells:=by
 unfold lz.of at h;split at h
 ·simp only[fp,fq]at h;obtain⟨x0,h0,x1,h1,x2,h2,rfl⟩:=h;rw[lz.kN];exact(lO.cons (ut h0) (lO.cons (QS h1) (lO.cons (ut h2) lO.nil)))
 ·cases h
def lz.kv:QU lz:=⟨lz.cells,lz.of,fun _ _ _ _ h=>lz.nI h,lz.nb⟩
def lz.row:Row lz:=⟨lz.cells,lz.of [],3,fun _ _ h=>(lz.nI (n:=0) h).nG,lz.nb⟩
def lz.lU(xs:List lz):qQ (lz.of []) (mp lz.cells xs)=some xs:=yz (lz.l9 []) xs
def lz.sN:lz.row.enc=lz.cells/\lz.row.mH=lz.of []/\lz.row.sz=3/\lz.kv.enc=lz.cells/\lz.kv.mH=lz.of:=⟨rfl,rfl,rfl,rfl,rfl⟩
attribute [go_sem] lz.mY lz.l9 lz.lU lz.sN
def lz.Sp:(∀(y0:Int)(y1:kj)(y2:Int),(lz.mk y0 y1 y2).kind=y0)/\(∀(y0:Int)(y1:kj)(y2:Int),(lz.mk y0 y1 y2).text=y1)/\(∀(y0:Int)(y1:kj)(y2:Int),(lz.mk y0 y1 y2).at_=y2):=⟨fun _ _ _=>rfl,fun _ _ _=>rfl,fun _ _ _=>rfl⟩
attribute [go_sem] lz.Sp
def lz.nbs:(∀(n:Nat)(x:lz),Go.Abs.uc n x.cells=True)/\∀(n:Nat)(xs:List lz),Go.Abs.Jv n (mp lz.cells xs)=True:=⟨fun n x=>eq_true (lz.nb n x),fun n xs=>eq_true (my (lz.nb n) xs)⟩
def lz.vw(H:List j5)(x:lz):vwL H x.cells=some (x.cells,[]):=Ag H _ (lz.nb 0 x)
attribute [go_sem] lz.vw
theorem lz.frz(low:Nat)(H:List j5)(x:lz):aqC low H x.cells=x.cells:=KM low H _ (lz.nb 0 x)
def lz.reads:
 (∀x:lz,cellsOf (.agg x.cells)=some x.cells)/\
 (∀x:lz,kr true 3 x.cells=some (.agg x.cells))/\
 (∀x:lz,kr false 1 x.cells=some (.int .i64 x.kind))/\
 (∀x:lz,kr false 1 (x.cells.drop 1)=some (.str (sb x.text)))/\
 (∀x:lz,kr false 1 (x.cells.drop 2)=some (.int .i64 x.at_)):=
 ⟨fun x=>by simp only[cellsOf,lz.lI,jM],
  fun x=>ql (lz.length x),
  fun x=>by rw[lz.jV];rfl,
  fun x=>by rw[lz.jV];rfl,
  fun x=>by rw[lz.jV];rfl⟩
attribute [go_sem] lz.nbs lz.frz lz.reads lz.length lz.lI
structure ko where
 Sq:List lz
 next:Int
 base:Int
def ko.cells(x:ko):List AV:=[.kF false 3 (mp lz.cells x.Sq),.int .i64 x.next,.int .i64 x.base]
theorem ko.kN(x:ko):x.cells=[.kF false 3 (mp lz.cells x.Sq),.int .i64 x.next,.int .i64 x.base]:=rfl
theorem ko.jV(x:ko):x.cells=[.kF false 3 (mp lz.cells x.Sq),.int .i64 x.next,.int .i64 x.base]:=rfl
attribute [irreducible] ko.cells
theorem ko.length(x:ko):x.cells.length=3:=by rw[ko.jV];rfl
def ko.lI(x:ko):x.cells.all AV.lI=true:=by rw[ko.jV];rfl
theorem ko.nb(n:Nat)(x:ko):uc n x.cells:=by
 rw[ko.kN];exact⟨my (lz.nb n) _,trivial,trivial,trivial⟩
def ko.of(H:List j5):List AV->Option ko
 |[c0,c1,c2]=>(dL lz.row H c0).bind fun x0=>(dI .i64 c1).bind fun x1=>(dI .i64 c2).bind fun x2=>some (.mk x0 x1 x2)
 |_=>none
def ko.mY{c0 c1 c2:AV}:ko.of H [c0,c1,c2]=(dL lz.row H c0).bind fun x0=>(dI .i64 c1).bind fun x1=>(dI .i64 c2).bind fun x2=>some (.mk x0 x1 x2):=rfl
def ko.kR(H:List j5)(x:ko):ko.of H [.kF false 3 (mp lz.cells x.Sq),.int .i64 x.next,.int .i64 x.base]=some x:=by
 simp only[ko.mY,wz,tw,BD,nO,Af,beq_self_eq_true,fy,jE,dL,lz.lU,lz.row]
 try (cases x;rfl)
def ko.nI{x:ko}(h:ko.of H cs=some x):lO H n cs x.cells:=by
 unfold ko.of at h;split at h
 ·simp only[fp,fq]at h;obtain⟨x0,h0,x1,h1,x2,h2,rfl⟩:=h;rw[ko.kN];exact(lO.cons (wh h0) (lO.cons (ut h1) (lO.cons (ut h2) lO.nil)))
 ·cases h
def ko.kv:QU ko:=⟨ko.cells,ko.of,fun _ _ _ _ h=>ko.nI h,ko.nb⟩
def ko.row:Row ko:=⟨ko.cells,ko.of [],3,fun _ _ h=>(ko.nI (n:=0) h).nG,ko.nb⟩
def ko.sN:ko.row.enc=ko.cells/\ko.row.mH=ko.of []/\ko.row.sz=3/\ko.kv.enc=ko.cells/\ko.kv.mH=ko.of:=⟨rfl,rfl,rfl,rfl,rfl⟩
def ko.eta(x:ko):ko.mk x.Sq x.next x.base=x:=by cases x;rfl
attribute [go_sem] ko.mY ko.sN ko.eta
def ko.Sp:(∀(y0:List lz)(y1:Int)(y2:Int),(ko.mk y0 y1 y2).Sq=y0)/\(∀(y0:List lz)(y1:Int)(y2:Int),(ko.mk y0 y1 y2).next=y1)/\(∀(y0:List lz)(y1:Int)(y2:Int),(ko.mk y0 y1 y2).base=y2):=⟨fun _ _ _=>rfl,fun _ _ _=>rfl,fun _ _ _=>rfl⟩
attribute [go_sem] ko.Sp
def ko.ag5:(∀(Y:Nat->Nat)(x:ko),s6 Y x.cells=x.cells)/\∀(Y:Nat->Nat)(xs:List ko),GB Y (mp ko.cells xs)=mp ko.cells xs:=⟨fun Y x=>q6 Y _ (ko.nb 0 x),fun Y xs=>vz Y _ (my (ko.nb 0) xs)⟩
def ko.reads:
 (∀x:ko,cellsOf (.agg x.cells)=some x.cells)/\
 (∀x:ko,kr true 3 x.cells=some (.agg x.cells))/\
 (∀x:ko,kr false 1 x.cells=some (.kF false 3 (mp lz.cells x.Sq)))/\
 (∀x:ko,kr false 1 (x.cells.drop 1)=some (.int .i64 x.next))/\
 (∀x:ko,kr false 1 (x.cells.drop 2)=some (.int .i64 x.base)):=
 ⟨fun x=>by simp only[cellsOf,ko.lI,jM],
  fun x=>ql (ko.length x),
  fun x=>by rw[ko.jV];rfl,
  fun x=>by rw[ko.jV];rfl,
  fun x=>by rw[ko.jV];rfl⟩
theorem ko.app(x:ko)(l:List AV):x.cells++l=(.kF false 3 (mp lz.cells x.Sq):AV)::(.int .i64 x.next:AV)::(.int .i64 x.base:AV)::l:=by rw[ko.jV];rfl
attribute [go_sem] ko.app ko.ag5 ko.reads ko.length ko.lI
structure jP where
 GU:ko
 atc:List jR
 ady:List kj
 depth:Int
def jP.cells(x:jP):List AV:=x.GU.cells++[.kF false 4 (mp jR.cells x.atc),.kF false 1 (mp kX x.ady),.int .i64 x.depth]
theorem jP.kN(x:jP):x.cells=x.GU.cells++[.kF false 4 (mp jR.cells x.atc),.kF false 1 (mp kX x.ady),.int .i64 x.depth]:=rfl
theorem jP.jV(x:jP):x.cells=[.kF false 3 (mp lz.cells x.GU.Sq),.int .i64 x.GU.next,.int .i64 x.GU.base,.kF false 4 (mp jR.cells x.atc),.kF false 1 (mp kX x.ady),.int .i64 x.depth]:=by
 simp only[jP.cells,ko.jV,fB,fC,fD]
attribute [irreducible] jP.cells
theorem jP.length(x:jP):x.cells.length=6:=by rw[jP.jV];rfl
def jP.lI(x:jP):x.cells.all AV.lI=true:=by rw[jP.jV];rfl
theorem jP.nb(n:Nat)(x:jP):uc n x.cells:=by
 rw[jP.kN];exact(pz (ko.nb n x.GU) ⟨my (jR.nb n) _,my (wA n) _,trivial,trivial⟩)
def jP.of(H:List j5):List AV->Option jP
 |[c0,c1,c2,c3,c4,c5]=>(ko.of H [c0,c1,c2]).bind fun x0=>(dL jR.row H c3).bind fun x1=>(dL kW H c4).bind fun x2=>(dI .i64 c5).bind fun x3=>some (.mk x0 x1 x2 x3)
 |_=>none
def jP.mY{c0 c1 c2 c3 c4 c5:AV}:jP.of H [c0,c1,c2,c3,c4,c5]=(ko.of H [c0,c1,c2]).bind fun x0=>(dL jR.row H c3).bind fun x1=>(dL kW H c4).bind fun x2=>(dI .i64 c5).bind fun x3=>some (.mk x0 x1 x2 x3):=rfl
def jP.kR(H:List j5)(x:jP):jP.of H [.kF false 3 (mp lz.cells x.GU.Sq),.int .i64 x.GU.next,.int .i64 x.GU.base,.kF false 4 (mp jR.cells x.atc),.kF false 1 (mp kX x.ady),.int .i64 x.depth]=some x:=by
 simp only[jP.mY,wz,tw,BD,nO,Af,beq_self_eq_true,fy,jE,dL,jR.lU,jR.row,ye,Zu,ko.kR]
 try (cases x;rfl)
theorem jP.l9(H:List j5)(x:jP):jP.of H x.cells=some x:=by rw[jP.jV];exact jP.kR H x
def jP.nI{x:jP}(h:jP.of H cs=some x):lO H n cs x.cells:=by
 unfold jP.of at h;split at h
 ·simp only[fp,fq]at h;obtain⟨x0,h0,x1,h1,x2,h2,x3,h3,rfl⟩:=h;rw[jP.kN];exact(lO.append (ko.nI h0) (lO.cons (wh h1) (lO.cons (wh h2) (lO.cons (ut h3) lO.nil))))
 ·cases h
def jP.kv:QU jP:=⟨jP.cells,jP.of,fun _ _ _ _ h=>jP.nI h,jP.nb⟩
def jP.row:Row jP:=⟨jP.cells,jP.of [],6,fun _ _ h=>(jP.nI (n:=0) h).nG,jP.nb⟩
def jP.sN:jP.row.enc=jP.cells/\jP.row.mH=jP.of []/\jP.row.sz=6/\jP.kv.enc=jP.cells/\jP.kv.mH=jP.of:=⟨rfl,rfl,rfl,rfl,rfl⟩
attribute [go_sem] jP.mY jP.l9 jP.sN
def jP.Sp:(∀(y0:ko)(y1:List jR)(y2:List kj)(y3:Int),(jP.mk y0 y1 y2 y3).GU=y0)/\(∀(y0:ko)(y1:List jR)(y2:List kj)(y3:Int),(jP.mk y0 y1 y2 y3).atc=y1)/\(∀(y0:ko)(y1:List jR)(y2:List kj)(y3:Int),(jP.mk y0 y1 y2 y3).ady=y2)/\(∀(y0:ko)(y1:List jR)(y2:List kj)(y3:Int),(jP.mk y0 y1 y2 y3).depth=y3):=⟨fun _ _ _ _=>rfl,fun _ _ _ _=>rfl,fun _ _ _ _=>rfl,fun _ _ _ _=>rfl⟩
attribute [go_sem] jP.Sp
def jP.nbs:(∀(n:Nat)(x:jP),Go.Abs.uc n x.cells=True)/\∀(n:Nat)(xs:List jP),Go.Abs.Jv n (mp jP.cells xs)=True:=⟨fun n x=>eq_true (jP.nb n x),fun n xs=>eq_true (my (jP.nb n) xs)⟩
def jP.ag5:(∀(Y:Nat->Nat)(x:jP),s6 Y x.cells=x.cells)/\∀(Y:Nat->Nat)(xs:List jP),GB Y (mp jP.cells xs)=mp jP.cells xs:=⟨fun Y x=>q6 Y _ (jP.nb 0 x),fun Y xs=>vz Y _ (my (jP.nb 0) xs)⟩
def jP.tk:(∀x:jP,List.take 6 x.cells=x.cells)/\∀x:jP,List.drop 6 x.cells=[]:=⟨fun x=>by rw[jP.jV];rfl,fun x=>by rw[jP.jV];rfl⟩
attribute [go_sem] jP.tk
def jP.reads:
 (∀x:jP,cellsOf (.agg x.cells)=some x.cells)/\
 (∀x:jP,kr true 6 x.cells=some (.agg x.cells))/\
 (∀x:jP,kr false 1 x.cells=some (.kF false 3 (mp lz.cells x.GU.Sq)))/\
 (∀x:jP,kr false 1 (x.cells.drop 1)=some (.int .i64 x.GU.next))/\
 (∀x:jP,kr false 1 (x.cells.drop 2)=some (.int .i64 x.GU.base))/\
 (∀x:jP,kr false 1 (x.cells.drop 3)=some (.kF false 4 (mp jR.cells x.atc)))/\
 (∀x:jP,kr false 1 (x.cells.drop 4)=some (.kF false 1 (mp kX x.ady)))/\
 (∀x:jP,kr false 1 (x.cells.drop 5)=some (.int .i64 x.depth))/\
 (∀x:jP,kr true 3 x.cells=some (.agg x.GU.cells)):=
 ⟨fun x=>by simp only[cellsOf,jP.lI,jM],
  fun x=>ql (jP.length x),
  fun x=>by rw[jP.jV];rfl,
  fun x=>by rw[jP.jV];rfl,
  fun x=>by rw[jP.jV];rfl,
  fun x=>by rw[jP.jV];rfl,
  fun x=>by rw[jP.jV];rfl,
  fun x=>by rw[jP.jV];rfl,
  fun x=>by rw[jP.jV];simp only[ko.jV,fx,fA];rfl⟩
def jP.as8(x:jP)(o:Nat)(xs:List AV):vq x.cells o xs=vq [.kF false 3 (mp lz.cells x.GU.Sq),.int .i64 x.GU.next,.int .i64 x.GU.base,.kF false 4 (mp jR.cells x.atc),.kF false 1 (mp kX x.ady),.int .i64 x.depth] o xs:=by rw[jP.jV]
attribute [go_sem] jP.nbs jP.ag5 jP.reads jP.length jP.lI
attribute [go_sem low] jP.as8
structure j8 where
 name:kj
 t:Syntax
def j8.cells(x:j8):List AV:=[.str (sb x.name)]++x.t.cells
theorem j8.kN(x:j8):x.cells=[.str (sb x.name)]++x.t.cells:=rfl
theorem j8.jV(x:j8):x.cells=[.str (sb x.name),.int .i64 x.t.kind,.str (sb x.t.text),.int .i64 x.t.num,.kF false 1 (mp kX x.t.mA),.kF false 2 (mp jX.cells x.t.kg),.kF false 8 (mp Syntax.cells x.t.kI),.int .i64 x.t.OP,.int .i64 x.t.to]:=by
 simp only[j8.cells,Syntax.jV,fB,fC,fD]
attribute [irreducible] j8.cells
theorem j8.length(x:j8):x.cells.length=9:=by rw[j8.jV];rfl
def j8.lI(x:j8):x.cells.all AV.lI=true:=by rw[j8.jV];rfl
theorem j8.nb(n:Nat)(x:j8):uc n x.cells:=by
 rw[j8.kN];exact(pz ⟨trivial,trivial⟩ (Syntax.nb n x.t))
def j8.of(H:List j5):List AV->Option j8
 |[c0,c1,c2,c3,c4,c5,c6,c7,c8]=>(dS c0).bind fun x0=>(Syntax.of H [c1,c2,c3,c4,c5,c6,c7,c8]).bind fun x1=>some (.mk x0 x1)
 |_=>none
def j8.mY {c0 c1 c2 c3 c4 c5 c6:AV}:j8.of H [c0,c1,c2,c3,c4,c5,c6,c7,c8]=(dS c0).bind fun x0=>(Syntax.of H [c1,c2,c3,c4,c5,c6,c7,c8]).bind fun x1=>some (.mk x0 x1):=rfl
def j8.kR(H:List j5)(x:j8):j8.of H [.str (sb x.name),.int .i64 x.t.kind,.str (sb x.t.text),.int .i64 x.t.num,.kF false 1 (mp kX x.t.mA),.kF false 2 (mp jX.cells x.t.kg),.kF false 8 (mp Syntax.cells x.t.kI),.int .i64 x.t.OP,.int .i64 x.t.to]=some x:=by
 simp only[j8.mY,wz,tw,BD,nO,Af,beq_self_eq_true,fy,jE,dL,Syntax.kR]
 try (cases x;rfl)
theorem j8.l9(H:List j5)(x:j8):j8.of H x.cells=some x:=by rw[j8.jV];exact j8.kR H x
def j8.nI{x:j8}(h:j8.of H cs=some x):lO H n cs x.cells:=by
 unfold j8.of at h;split at h
 ·simp only[fp,fq]at h;obtain⟨x0,h0,x1,h1,rfl⟩:=h;rw[j8.kN];exact(lO.append (lO.cons (QS h0) lO.nil) (Syntax.nI h1))
 ·cases h
def j8.kv:QU j8:=⟨j8.cells,j8.of,fun _ _ _ _ h=>j8.nI h,j8.nb⟩
def j8.row:Row j8:=⟨j8.cells,j8.of [],9,fun _ _ h=>(j8.nI (n:=0) h).nG,j8.nb⟩
def j8.lU(xs:List j8):qQ (j8.of []) (mp j8.cells xs)=some xs:=yz (j8.l9 []) xs
def j8.sN:j8.row.enc=j8.cells/\j8.row.mH=j8.of []/\j8.row.sz=9/\j8.kv.enc=j8.cells/\j8.kv.mH=j8.of:=⟨rfl,rfl,rfl,rfl,rfl⟩
attribute [go_sem] j8.mY j8.l9 j8.lU j8.sN
def j8.Sp:(∀(y0:kj)(y1:Syntax),(j8.mk y0 y1).name=y0)/\(∀(y0:kj)(y1:Syntax),(j8.mk y0 y1).t=y1):=⟨fun _ _=>rfl,fun _ _=>rfl⟩
attribute [go_sem] j8.Sp
def j8.nbs:(∀(n:Nat)(x:j8),Go.Abs.uc n x.cells=True)/\∀(n:Nat)(xs:List j8),Go.Abs.Jv n (mp j8.cells xs)=True:=⟨fun n x=>eq_true (j8.nb n x),fun n xs=>eq_true (my (j8.nb n) xs)⟩
def j8.ag5:(∀(Y:Nat->Nat)(x:j8),s6 Y x.cells=x.cells)/\∀(Y:Nat->Nat)(xs:List j8),GB Y (mp j8.cells xs)=mp j8.cells xs:=⟨fun Y x=>q6 Y _ (j8.nb 0 x),fun Y xs=>vz Y _ (my (j8.nb 0) xs)⟩
def j8.reads:
 (∀x:j8,cellsOf (.agg x.cells)=some x.cells)/\
 (∀x:j8,kr true 9 x.cells=some (.agg x.cells))/\
 (∀x:j8,kr false 1 x.cells=some (.str (sb x.name)))/\
 (∀x:j8,kr false 1 (x.cells.drop 1)=some (.int .i64 x.t.kind))/\
 (∀x:j8,kr false 1 (x.cells.drop 2)=some (.str (sb x.t.text)))/\
 (∀x:j8,kr false 1 (x.cells.drop 3)=some (.int .i64 x.t.num))/\
 (∀x:j8,kr false 1 (x.cells.drop 4)=some (.kF false 1 (mp kX x.t.mA)))/\
 (∀x:j8,kr false 1 (x.cells.drop 5)=some (.kF false 2 (mp jX.cells x.t.kg)))/\
 (∀x:j8,kr false 1 (x.cells.drop 6)=some (.kF false 8 (mp Syntax.cells x.t.kI)))/\
 (∀x:j8,kr false 1 (x.cells.drop 7)=some (.int .i64 x.t.OP))/\
 (∀x:j8,kr false 1 (x.cells.drop 8)=some (.int .i64 x.t.to))/\
 (∀x:j8,kr true 8 (x.cells.drop 1)=some (.agg x.t.cells)):=
 ⟨fun x=>by simp only[cellsOf,j8.lI,jM],
  fun x=>ql (j8.length x),
  fun x=>by rw[j8.jV];rfl,
  fun x=>by rw[j8.jV];rfl,
  fun x=>by rw[j8.jV];rfl,
  fun x=>by rw[j8.jV];rfl,
  fun x=>by rw[j8.jV];rfl,
  fun x=>by rw[j8.jV];rfl,
  fun x=>by rw[j8.jV];rfl,
  fun x=>by rw[j8.jV];rfl,
  fun x=>by rw[j8.jV];rfl,
  fun x=>by rw[j8.jV];simp only[Syntax.jV,fx,fA];rfl⟩
attribute [go_sem] j8.nbs j8.ag5 j8.reads j8.length j8.lI
structure kn where
 index:Bool
 name:Bool
 kg:Int
 kI:Int
 below:Int
def kn.cells(x:kn):List AV:=[.bool x.index,.bool x.name,.int .i64 x.kg,.int .i64 x.kI,.int .i64 x.below]
theorem kn.kN(x:kn):x.cells=[.bool x.index,.bool x.name,.int .i64 x.kg,.int .i64 x.kI,.int .i64 x.below]:=rfl
theorem kn.jV(x:kn):x.cells=[.bool x.index,.bool x.name,.int .i64 x.kg,.int .i64 x.kI,.int .i64 x.below]:=rfl
attribute [irreducible] kn.cells
theorem kn.length(x:kn):x.cells.length=5:=by rw[kn.jV];rfl
def kn.lI(x:kn):x.cells.all AV.lI=true:=by rw[kn.jV];rfl
theorem kn.nb(n:Nat)(x:kn):uc n x.cells:=by
 rw[kn.kN];exact⟨trivial,trivial,trivial,trivial,trivial,trivial⟩
def kn.of(H:List j5):List AV->Option kn
 |[c0,c1,c2,c3,c4]=>(dB c0).bind fun x0=>(dB c1).bind fun x1=>(dI .i64 c2).bind fun x2=>(dI .i64 c3).bind fun x3=>(dI .i64 c4).bind fun x4=>some (.mk x0 x1 x2 x3 x4)
 |_=>none
def kn.mY{c0 c1 c2 c3 c4:AV}:kn.of H [c0,c1,c2,c3,c4]=(dB c0).bind fun x0=>(dB c1).bind fun x1=>(dI .i64 c2).bind fun x2=>(dI .i64 c3).bind fun x3=>(dI .i64 c4).bind fun x4=>some (.mk x0 x1 x2 x3 x4):=rfl
def kn.kR(H:List j5)(x:kn):kn.of H [.bool x.index,.bool x.name,.int .i64 x.kg,.int .i64 x.kI,.int .i64 x.below]=some x:=by
 simp only[kn.mY,wz,tw,BD,nO,Af,beq_self_eq_true,fy,jE,dL]
 try (cases x;rfl)
theorem kn.l9(H:List j5)(x:kn):kn.of H x.cells=some x:=by rw[kn.jV];exact kn.kR H x
def kn.nI{x:kn}(h:kn.of H cs=some x):lO H n cs x.cells:=by
 unfold kn.of at h;split at h
 ·simp only[fp,fq]at h;obtain⟨x0,h0,x1,h1,x2,h2,x3,h3,x4,h4,rfl⟩:=h;rw[kn.kN];exact(lO.cons (ap4 h0) (lO.cons (ap4 h1) (lO.cons (ut h2) (lO.cons (ut h3) (lO.cons (ut h4) lO.nil)))))
 ·cases h
def kn.kv:QU kn:=⟨kn.cells,kn.of,fun _ _ _ _ h=>kn.nI h,kn.nb⟩
def kn.row:Row kn:=⟨kn.cells,kn.of [],5,fun _ _ h=>(kn.nI (n:=0) h).nG,kn.nb⟩
def kn.sN:kn.row.enc=kn.cells/\kn.row.mH=kn.of []/\kn.row.sz=5/\kn.kv.enc=kn.cells/\kn.kv.mH=kn.of:=⟨rfl,rfl,rfl,rfl,rfl⟩
attribute [go_sem] kn.mY kn.l9 kn.sN
def kn.Sp:(∀(y0:Bool)(y1:Bool)(y2:Int)(y3:Int)(y4:Int),(kn.mk y0 y1 y2 y3 y4).index=y0)/\(∀(y0:Bool)(y1:Bool)(y2:Int)(y3:Int)(y4:Int),(kn.mk y0 y1 y2 y3 y4).name=y1)/\(∀(y0:Bool)(y1:Bool)(y2:Int)(y3:Int)(y4:Int),(kn.mk y0 y1 y2 y3 y4).kg=y2)/\(∀(y0:Bool)(y1:Bool)(y2:Int)(y3:Int)(y4:Int),(kn.mk y0 y1 y2 y3 y4).kI=y3)/\(∀(y0:Bool)(y1:Bool)(y2:Int)(y3:Int)(y4:Int),(kn.mk y0 y1 y2 y3 y4).below=y4):=⟨fun _ _ _ _ _=>rfl,fun _ _ _ _ _=>rfl,fun _ _ _ _ _=>rfl,fun _ _ _ _ _=>rfl,fun _ _ _ _ _=>rfl⟩
attribute [go_sem] kn.Sp
def kn.arr:(∀(m i:Nat)(v:yB kn m),VF 5 i (s7 kn.cells m v)=((Eh m v)[i]?).bind fun y=>some (kn.cells y))/\(∀(H:List j5)(m:Nat)(v:yB kn m),Zy (kn.of H) 5 m (s7 kn.cells m v)=some v)/\(∀(m:Nat)(v:yB kn m),(s7 kn.cells m v).length=m*5)/\(∀(Y:Nat->Nat)(m:Nat)(v:yB kn m),s6 Y (s7 kn.cells m v)=s7 kn.cells m v)/\(∀(N m:Nat)(v:yB kn m),uc N (s7 kn.cells m v)=True)/\(∀(l:Nat)(cs:List AV)(m:Nat)(v:yB kn m),(s7 kn.cells m v).map (rp1 l cs)=s7 kn.cells m v)/\(∀(l:Nat)(cs:List AV)(m:Nat)(v:yB kn m),(s7 kn.cells m v).map (rpV l cs)=s7 kn.cells m v)/\(∀(m:Nat)(v:yB kn m),cellsOf (.agg (s7 kn.cells m v))=some (s7 kn.cells m v)):=⟨fun m i v=>(alI kn.length (by decide) m i v).trans (by cases (Eh m v)[i]? <;>rfl),fun H m v=>as0 kn.length (kn.l9 H) m v,fun m v=>asZ kn.length m v,fun Y m v=>q6 Y _ (awu kn.nb 0 m v),fun N m v=>eq_true (awu kn.nb N m v),fun l cs m v=>adr _ (awu kn.nb 0 m v),fun l cs m v=>VS _ (awu kn.nb 0 m v),fun m v=>aH4 kn.lI m v⟩
attribute [go_sem high] kn.arr
def kn.reads:
 (∀x:kn,cellsOf (.agg x.cells)=some x.cells)/\
 (∀x:kn,kr true 5 x.cells=some (.agg x.cells))/\
 (∀x:kn,kr false 1 x.cells=some (.bool x.index))/\
 (∀x:kn,kr false 1 (x.cells.drop 1)=some (.bool x.name))/\
 (∀x:kn,kr false 1 (x.cells.drop 2)=some (.int .i64 x.kg))/\
 (∀x:kn,kr false 1 (x.cells.drop 3)=some (.int .i64 x.kI))/\
 (∀x:kn,kr false 1 (x.cells.drop 4)=some (.int .i64 x.below)):=
 ⟨fun x=>by simp only[cellsOf,kn.lI,jM],
  fun x=>ql (kn.length x),
  fun x=>by rw[kn.jV];rfl,
  fun x=>by rw[kn.jV];rfl,
  fun x=>by rw[kn.jV];rfl,
  fun x=>by rw[kn.jV];rfl,
  fun x=>by rw[kn.jV];rfl⟩
attribute [go_sem] kn.reads kn.length kn.lI
structure j6 where
 env:List kz
 own:List kj
 d:kz
def j6.cells(x:j6):List AV:=[.kF false 23 (mp kz.cells x.env),.kF false 1 (mp kX x.own)]++x.d.cells
theorem j6.kN(x:j6):x.cells=[.kF false 23 (mp kz.cells x.env),.kF false 1 (mp kX x.own)]++x.d.cells:=rfl
theorem j6.jV(x:j6):x.cells=[.kF false 23 (mp kz.cells x.env),.kF false 1 (mp kX x.own),.int .i64 x.d.kind,.str (sb x.d.name),.int .i64 x.d.params,.int .i64 x.d.type.kind,.int .i64 x.d.type.index,.str (sb x.d.type.name),.kF false 2 (mp kA.cells x.d.type.kg),.kF false 5 (mp jW.cells x.d.type.kI),.int .i64 x.d.value.kind,.int .i64 x.d.value.index,.str (sb x.d.value.name),.kF false 2 (mp kA.cells x.d.value.kg),.kF false 5 (mp jW.cells x.d.value.kI),.int .i64 x.d.GS,.kF false 6 (mp mI.cells x.d.q5),.int .i64 x.d.oZ.params,.int .i64 x.d.oZ.type.kind,.int .i64 x.d.oZ.type.index,.str (sb x.d.oZ.type.name),.kF false 2 (mp kA.cells x.d.oZ.type.kg),.kF false 5 (mp jW.cells x.d.oZ.type.kI),.kF false 5 (mp jW.cells x.d.oZ.yA),.kF false 15 (mp qH.cells x.d.Aj)]:=by
 simp only[j6.cells,kz.jV,fB,fC,fD]
attribute [irreducible] j6.cells
theorem j6.length(x:j6):x.cells.length=25:=by rw[j6.jV];rfl
def j6.lI(x:j6):x.cells.all AV.lI=true:=by rw[j6.jV];rfl
theorem j6.nb(n:Nat)(x:j6):uc n x.cells:=by
 rw[j6.kN];exact(pz ⟨my (kz.nb n) _,my (wA n) _,trivial⟩ (kz.nb n x.d))
def j6.of(H:List j5):List AV->Option j6
 |[c0,c1,c2,c3,c4,c5,c6,c7,c8,c9,c10,c11,c12,c13,c14,c15,c16,c17,c18,c19,c20,c21,c22,c23,c24]=>(dL kz.row H c0).bind fun x0=>(dL kW H c1).bind fun x1=>(kz.of H [c2,c3,c4,c5,c6,c7,c8,c9,c10,c11,c12,c13,c14,c15,c16,c17,c18,c19,c20,c21,c22,c23,c24]).bind fun x2=>some (.mk x0 x1 x2)
 |_=>none
def j6.mY {c0 c1 c2 c3 c4 c5 c6 c14 c15 c16 c17 c18 c19 c20 c21 c22 c23 c24:AV}:j6.of H [c0,c1,c2,c3,c4,c5,c6,c7,c8,c9,c10,c11,c12,c13,c14,c15,c16,c17,c18,c19,c20,c21,c22,c23,c24]=(dL kz.row H c0).bind fun x0=>(dL kW H c1).bind fun x1=>(kz.of H [c2,c3,c4,c5,c6,c7,c8,c9,c10,c11,c12,c13,c14,c15,c16,c17,c18,c19,c20,c21,c22,c23,c24]).bind fun x2=>some (.mk x0 x1 x2):=rfl
def j6.kR(H:List j5)(x:j6):j6.of H [.kF false 23 (mp kz.cells x.env),.kF false 1 (mp kX x.own),.int .i64 x.d.kind,.str (sb x.d.name),.int .i64 x.d.params,.int .i64 x.d.type.kind,.int .i64 x.d.type.index,.str (sb x.d.type.name),.kF false 2 (mp kA.cells x.d.type.kg),.kF false 5 (mp jW.cells x.d.type.kI),.int .i64 x.d.value.kind,.int .i64 x.d.value.index,.str (sb x.d.value.name),.kF false 2 (mp kA.cells x.d.value.kg),.kF false 5 (mp jW.cells x.d.value.kI),.int .i64 x.d.GS,.kF false 6 (mp mI.cells x.d.q5),.int .i64 x.d.oZ.params,.int .i64 x.d.oZ.type.kind,.int .i64 x.d.oZ.type.index,.str (sb x.d.oZ.type.name),.kF false 2 (mp kA.cells x.d.oZ.type.kg),.kF false 5 (mp jW.cells x.d.oZ.type.kI),.kF false 5 (mp jW.cells x.d.oZ.yA),.kF false 15 (mp qH.cells x.d.Aj)]=some x:=by
 simp only[j6.mY,wz,tw,BD,nO,Af,beq_self_eq_true,fy,jE,dL,kz.lU,kz.row,ye,Zu,kz.kR]
 try (cases x;rfl)
theorem j6.l9(H:List j5)(x:j6):j6.of H x.cells=some x:=by rw[j6.jV];exact j6.kR H x
def j6.nI{x:j6}(h:j6.of H cs=some x):lO H n cs x.cells:=by
 unfold j6.of at h;split at h
 ·simp only[fp,fq]at h;obtain⟨x0,h0,x1,h1,x2,h2,rfl⟩:=h;rw[j6.kN];exact(lO.append (lO.cons (wh h0) (lO.cons (wh h1) lO.nil)) (kz.nI h2))
 ·cases h
def j6.kv:QU j6:=⟨j6.cells,j6.of,fun _ _ _ _ h=>j6.nI h,j6.nb⟩
def j6.row:Row j6:=⟨j6.cells,j6.of [],25,fun _ _ h=>(j6.nI (n:=0) h).nG,j6.nb⟩
def j6.sN:j6.row.enc=j6.cells/\j6.row.mH=j6.of []/\j6.row.sz=25/\j6.kv.enc=j6.cells/\j6.kv.mH=j6.of:=⟨rfl,rfl,rfl,rfl,rfl⟩
attribute [go_sem] j6.mY j6.l9 j6.sN
def j6.Sp:(∀(y0:List kz)(y1:List kj)(y2:kz),(j6.mk y0 y1 y2).env=y0)/\(∀(y0:List kz)(y1:List kj)(y2:kz),(j6.mk y0 y1 y2).own=y1)/\(∀(y0:List kz)(y1:List kj)(y2:kz),(j6.mk y0 y1 y2).d=y2):=⟨fun _ _ _=>rfl,fun _ _ _=>rfl,fun _ _ _=>rfl⟩
attribute [go_sem] j6.Sp
def j6.nbs:(∀(n:Nat)(x:j6),Go.Abs.uc n x.cells=True)/\∀(n:Nat)(xs:List j6),Go.Abs.Jv n (mp j6.cells xs)=True:=⟨fun n x=>eq_true (j6.nb n x),fun n xs=>eq_true (my (j6.nb n) xs)⟩
def j6.vw(H:List j5)(x:j6):vwL H x.cells=some (x.cells,[]):=Ag H _ (j6.nb 0 x)
attribute [go_sem] j6.vw
def j6.reads:
 (∀x:j6,cellsOf (.agg x.cells)=some x.cells)/\
 (∀x:j6,kr true 25 x.cells=some (.agg x.cells))/\
 (∀x:j6,kr false 1 x.cells=some (.kF false 23 (mp kz.cells x.env)))/\
 (∀x:j6,kr false 1 (x.cells.drop 1)=some (.kF false 1 (mp kX x.own)))/\
 (∀x:j6,kr false 1 (x.cells.drop 2)=some (.int .i64 x.d.kind))/\
 (∀x:j6,kr false 1 (x.cells.drop 3)=some (.str (sb x.d.name)))/\
 (∀x:j6,kr false 1 (x.cells.drop 4)=some (.int .i64 x.d.params))/\
 (∀x:j6,kr false 1 (x.cells.drop 5)=some (.int .i64 x.d.type.kind))/\
 (∀x:j6,kr false 1 (x.cells.drop 6)=some (.int .i64 x.d.type.index))/\
 (∀x:j6,kr false 1 (x.cells.drop 7)=some (.str (sb x.d.type.name)))/\
 (∀x:j6,kr false 1 (x.cells.drop 8)=some (.kF false 2 (mp kA.cells x.d.type.kg)))/\
 (∀x:j6,kr false 1 (x.cells.drop 9)=some (.kF false 5 (mp jW.cells x.d.type.kI)))/\
 (∀x:j6,kr false 1 (x.cells.drop 10)=some (.int .i64 x.d.value.kind))/\
 (∀x:j6,kr false 1 (x.cells.drop 11)=some (.int .i64 x.d.value.index))/\
 (∀x:j6,kr false 1 (x.cells.drop 12)=some (.str (sb x.d.value.name)))/\
 (∀x:j6,kr false 1 (x.cells.drop 13)=some (.kF false 2 (mp kA.cells x.d.value.kg)))/\
 (∀x:j6,kr false 1 (x.cells.drop 14)=some (.kF false 5 (mp jW.cells x.d.value.kI)))/\
 (∀x:j6,kr false 1 (x.cells.drop 15)=some (.int .i64 x.d.GS))/\
 (∀x:j6,kr false 1 (x.cells.drop 16)=some (.kF false 6 (mp mI.cells x.d.q5)))/\
 (∀x:j6,kr false 1 (x.cells.drop 17)=some (.int .i64 x.d.oZ.params))/\
 (∀x:j6,kr false 1 (x.cells.drop 18)=some (.int .i64 x.d.oZ.type.kind))/\
 (∀x:j6,kr false 1 (x.cells.drop 19)=some (.int .i64 x.d.oZ.type.index))/\
 (∀x:j6,kr false 1 (x.cells.drop 20)=some (.str (sb x.d.oZ.type.name)))/\
 (∀x:j6,kr false 1 (x.cells.drop 21)=some (.kF false 2 (mp kA.cells x.d.oZ.type.kg)))/\
 (∀x:j6,kr false 1 (x.cells.drop 22)=some (.kF false 5 (mp jW.cells x.d.oZ.type.kI)))/\
 (∀x:j6,kr false 1 (x.cells.drop 23)=some (.kF false 5 (mp jW.cells x.d.oZ.yA)))/\
 (∀x:j6,kr false 1 (x.cells.drop 24)=some (.kF false 15 (mp qH.cells x.d.Aj)))/\
 (∀x:j6,kr true 23 (x.cells.drop 2)=some (.agg x.d.cells))/\
 (∀x:j6,kr true 5 (x.cells.drop 5)=some (.agg x.d.type.cells))/\
 (∀x:j6,kr true 5 (x.cells.drop 10)=some (.agg x.d.value.cells))/\
 (∀x:j6,kr true 7 (x.cells.drop 17)=some (.agg x.d.oZ.cells))/\
 (∀x:j6,kr true 5 (x.cells.drop 18)=some (.agg x.d.oZ.type.cells)):=
 ⟨fun x=>by simp only[cellsOf,j6.lI,jM],
  fun x=>ql (j6.length x),
  fun x=>by rw[j6.jV];rfl,
  fun x=>by rw[j6.jV];rfl,
  fun x=>by rw[j6.jV];rfl,
  fun x=>by rw[j6.jV];rfl,
  fun x=>by rw[j6.jV];rfl,
  fun x=>by rw[j6.jV];rfl,
  fun x=>by rw[j6.jV];rfl,
  fun x=>by rw[j6.jV];rfl,
  fun x=>by rw[j6.jV];rfl,
  fun x=>by rw[j6.jV];rfl,
  fun x=>by rw[j6.jV];rfl,
  fun x=>by rw[j6.jV];rfl,
  fun x=>by rw[j6.jV];rfl,
  fun x=>by rw[j6.jV];rfl,
  fun x=>by rw[j6.jV];rfl,
  fun x=>by rw[j6.jV];rfl,
  fun x=>by rw[j6.jV];rfl,
  fun x=>by rw[j6.jV];rfl,
  fun x=>by rw[j6.jV];rfl,
  fun x=>by rw[j6.jV];rfl,
  fun x=>by rw[j6.jV];rfl,
  fun x=>by rw[j6.jV];rfl,
  fun x=>by rw[j6.jV];rfl,
  fun x=>by rw[j6.jV];rfl,
  fun x=>by rw[j6.jV];rfl,
  fun x=>by rw[j6.jV];simp only[kz.jV,kV.jV,jW.jV,fx,fA];rfl,
  fun x=>by rw[j6.jV];simp only[kz.jV,kV.jV,jW.jV,fx,fA];rfl,
  fun x=>by rw[j6.jV];simp only[kz.jV,kV.jV,jW.jV,fx,fA];rfl,
  fun x=>by rw[j6.jV];simp only[kz.jV,kV.jV,jW.jV,fx,fA];rfl,
  fun x=>by rw[j6.jV];simp only[kz.jV,kV.jV,jW.jV,fx,fA];rfl⟩
def j6.as8(x:j6)(o:Nat)(xs:List AV):vq x.cells o xs=vq [.kF false 23 (mp kz.cells x.env),.kF false 1 (mp kX x.own),.int .i64 x.d.kind,.str (sb x.d.name),.int .i64 x.d.params,.int .i64 x.d.type.kind,.int .i64 x.d.type.index,.str (sb x.d.type.name),.kF false 2 (mp kA.cells x.d.type.kg),.kF false 5 (mp jW.cells x.d.type.kI),.int .i64 x.d.value.kind,.int .i64 x.d.value.index,.str (sb x.d.value.name),.kF false 2 (mp kA.cells x.d.value.kg),.kF false 5 (mp jW.cells x.d.value.kI),.int .i64 x.d.GS,.kF false 6 (mp mI.cells x.d.q5),.int .i64 x.d.oZ.params,.int .i64 x.d.oZ.type.kind,.int .i64 x.d.oZ.type.index,.str (sb x.d.oZ.type.name),.kF false 2 (mp kA.cells x.d.oZ.type.kg),.kF false 5 (mp jW.cells x.d.oZ.type.kI),.kF false 5 (mp jW.cells x.d.oZ.yA),.kF false 15 (mp qH.cells x.d.Aj)] o xs:=by rw[j6.jV]
attribute [go_sem] j6.nbs j6.reads j6.length j6.lI
attribute [go_sem low] j6.as8
open Go.Proofs
def tf0:
 mN fo 1=some (false,1)/\
 l8 fo 1=none/\
 mD fo 1=some [.sV .nilFunc]/\
 pg fo 1=false/\
 lT fo 1=true/\
 nn fo 1=true/\
 mN fo 3=some (false,1)/\
 l8 fo 3=none/\
 mD fo 3=some [.int .i64 0]/\
 pg fo 3=false/\
 arY fo 3=some .i64/\
 lT fo 3=false/\
 nn fo 3=true/\
 mN fo 4=some (false,1)/\
 l8 fo 4=none/\
 mD fo 4=some [.bool false]/\
 pg fo 4=false/\
 lT fo 4=true/\
 nn fo 4=true/\
 mN fo 5=some (false,1)/\
 l8 fo 5=none/\
 mD fo 5=some [.int .u8 0]/\
 pg fo 5=false/\
 arY fo 5=some .u8/\
 lT fo 5=false/\
 nn fo 5=true/\
 mN fo 9=some (false,1)/\
 l8 fo 9=none/\
 mD fo 9=some [.str fw]/\
 pg fo 9=true/\
 arY fo 9=none/\
 lT fo 9=true/\
 nn fo 9=true/\
 mN fo 20=some (false,1)/\
 l8 fo 20=none/\
 mD fo 20=some [.sV .nilIface]/\
 pg fo 20=false/\
 lT fo 20=true/\
 nn fo 20=false/\
 mN fo 21=some (false,1)/\
 l8 fo 21=none/\
 mD fo 21=some [.int .i32 0]/\
 pg fo 21=false/\
 arY fo 21=some .i32/\
 lT fo 21=false/\
 nn fo 21=true/\
 mN fo 22=some (false,1)/\
 l8 fo 22=some (25,4,56)/\
 mD fo 22=some [.kF true 0 []]/\
 pg fo 22=false/\
 lT fo 22=true/\
 nn fo 22=true/\
 mN fo 23=some (false,1)/\
 l8 fo 23=some (9,1,16)/\
 mD fo 23=some [.kF true 0 []]/\
 pg fo 23=false/\
 lT fo 23=true/\
 nn fo 23=true/\
 mN fo 25=some (true,4)/\
 rW fo 25=true/\
 oO fo 25 0=some (0,23)/\
 kT fo 25 0=some (0,1)/\
 oO fo 25 1=some (1,3)/\
 kT fo 25 1=some (1,1)/\
 oO fo 25 2=some (2,3)/\
 kT fo 25 2=some (2,1)/\
 oO fo 25 3=some (3,9)/\
 kT fo 25 3=some (3,1)/\
 l8 fo 25=none/\
 mD fo 25=some [.kF true 0 [],.int .i64 0,.int .i64 0,.str fw]/\
 pg fo 25=false/\
 lT fo 25=true/\
 nn fo 25=true/\
 mN fo 28=some (false,1)/\
 l8 fo 28=none/\
 mD fo 28=some [.int .i64 0]/\
 pg fo 28=false/\
 arY fo 28=some .i64/\
 lT fo 28=false/\
 nn fo 28=true/\
 mN fo 33=some (false,1)/\
 l8 fo 33=none/\
 mD fo 33=some [.sV .nilFunc]/\
 pg fo 33=false/\
 lT fo 33=true/\
 nn fo 33=true/\
 mN fo 34=some (false,1)/\
 l8 fo 34=some (112,2,32)/\
 mD fo 34=some [.kF true 0 []]/\
 pg fo 34=false/\
 lT fo 34=true/\
 nn fo 34=true/\
 mN fo 35=some (false,1)/\
 l8 fo 35=some (37,8,120)/\
 mD fo 35=some [.kF true 0 []]/\
 pg fo 35=false/\
 lT fo 35=true/\
 nn fo 35=true/\
 mN fo 37=some (true,8)/\
 rW fo 37=true/\
 oO fo 37 0=some (0,3)/\
 kT fo 37 0=some (0,1)/\
 oO fo 37 1=some (1,9)/\
 kT fo 37 1=some (1,1)/\
 oO fo 37 2=some (2,3)/\
 kT fo 37 2=some (2,1)/\
 oO fo 37 3=some (3,23)/\
 kT fo 37 3=some (3,1)/\
 oO fo 37 4=some (4,34)/\
 kT fo 37 4=some (4,1)/\
 oO fo 37 5=some (5,35)/\
 kT fo 37 5=some (5,1)/\
 oO fo 37 6=some (6,3)/\
 kT fo 37 6=some (6,1)/\
 oO fo 37 7=some (7,3)/\
 kT fo 37 7=some (7,1)/\
 l8 fo 37=none/\
 mD fo 37=some [.int .i64 0,.str fw,.int .i64 0,.kF true 0 [],.kF true 0 [],.kF true 0 [],.int .i64 0,.int .i64 0]/\
 pg fo 37=false/\
 lT fo 37=true:=
 ⟨jN,jN,jN,jN,jN,jN,jN,jN,jN,jN,jN,jN,jN,jN,jN,jN,jN,jN,jN,jN,jN,jN,jN,jN,jN,jN,jN,jN,jN,jN,jN,jN,jN,jN,jN,jN,jN,jN,jN,jN,jN,jN,jN,jN,jN,jN,jN,jN,jN,jN,jN,jN,jN,jN,jN,jN,jN,jN,jN,jN,jN,jN,jN,jN,jN,jN,jN,jN,jN,jN,jN,jN,jN,jN,jN,jN,jN,jN,jN,jN,jN,jN,jN,jN,jN,jN,jN,jN,jN,jN,jN,jN,jN,jN,jN,jN,jN,jN,jN,jN,jN,jN,jN,jN,jN,jN,jN,jN,jN,jN,jN,jN,jN,jN,jN,jN,jN,jN,jN,jN⟩
def tf1:
 nn fo 37=true/\
 mN fo 42=some (false,1)/\
 l8 fo 42=some (131,23,360)/\
 mD fo 42=some [.kF true 0 []]/\
 pg fo 42=false/\
 lT fo 42=true/\
 nn fo 42=true/\
 mN fo 43=some (false,1)/\
 l8 fo 43=some (432,2,40)/\
 mD fo 43=some [.kF true 0 []]/\
 pg fo 43=false/\
 lT fo 43=true/\
 nn fo 43=true/\
 mN fo 45=some (true,7)/\
 rW fo 45=true/\
 oO fo 45 0=some (0,42)/\
 kT fo 45 0=some (0,1)/\
 oO fo 45 1=some (1,43)/\
 kT fo 45 1=some (1,1)/\
 oO fo 45 2=some (2,23)/\
 kT fo 45 2=some (2,1)/\
 oO fo 45 3=some (3,23)/\
 kT fo 45 3=some (3,1)/\
 oO fo 45 4=some (4,22)/\
 kT fo 45 4=some (4,1)/\
 oO fo 45 5=some (5,23)/\
 kT fo 45 5=some (5,1)/\
 oO fo 45 6=some (6,23)/\
 kT fo 45 6=some (6,1)/\
 l8 fo 45=none/\
 mD fo 45=some [.kF true 0 [],.kF true 0 [],.kF true 0 [],.kF true 0 [],.kF true 0 [],.kF true 0 [],.kF true 0 []]/\
 pg fo 45=false/\
 lT fo 45=true/\
 nn fo 45=true/\
 mN fo 46=some (false,1)/\
 l8 fo 46=some (98,2,32)/\
 mD fo 46=some [.kF true 0 []]/\
 pg fo 46=false/\
 lT fo 46=true/\
 nn fo 46=true/\
 mN fo 47=some (false,1)/\
 l8 fo 47=some (49,5,80)/\
 mD fo 47=some [.kF true 0 []]/\
 pg fo 47=false/\
 lT fo 47=true/\
 nn fo 47=true/\
 mN fo 49=some (true,5)/\
 rW fo 49=true/\
 oO fo 49 0=some (0,3)/\
 kT fo 49 0=some (0,1)/\
 oO fo 49 1=some (1,3)/\
 kT fo 49 1=some (1,1)/\
 oO fo 49 2=some (2,9)/\
 kT fo 49 2=some (2,1)/\
 oO fo 49 3=some (3,46)/\
 kT fo 49 3=some (3,1)/\
 oO fo 49 4=some (4,47)/\
 kT fo 49 4=some (4,1)/\
 l8 fo 49=none/\
 mD fo 49=some [.int .i64 0,.int .i64 0,.str fw,.kF true 0 [],.kF true 0 []]/\
 pg fo 49=false/\
 lT fo 49=true/\
 nn fo 49=true/\
 mN fo 51=some (true,14)/\
 rW fo 51=true/\
 oO fo 51 0=some (0,45)/\
 kT fo 51 0=some (0,7)/\
 oO fo 51 1=some (7,23)/\
 kT fo 51 1=some (7,1)/\
 oO fo 51 2=some (8,23)/\
 kT fo 51 2=some (8,1)/\
 oO fo 51 3=some (9,49)/\
 kT fo 51 3=some (9,5)/\
 l8 fo 51=none/\
 mD fo 51=some [.kF true 0 [],.kF true 0 [],.kF true 0 [],.kF true 0 [],.kF true 0 [],.kF true 0 [],.kF true 0 [],.kF true 0 [],.kF true 0 [],.int .i64 0,.int .i64 0,.str fw,.kF true 0 [],.kF true 0 []]/\
 pg fo 51=false/\
 lT fo 51=true/\
 nn fo 51=true/\
 mN fo 57=some (false,1)/\
 l8 fo 57=none/\
 mD fo 57=some [.sV .nilFunc]/\
 pg fo 57=false/\
 lT fo 57=true/\
 nn fo 57=true/\
 mN fo 63=some (true,9)/\
 rW fo 63=true/\
 oO fo 63 0=some (0,3)/\
 kT fo 63 0=some (0,1)/\
 oO fo 63 1=some (1,3)/\
 kT fo 63 1=some (1,1)/\
 oO fo 63 2=some (2,3)/\
 kT fo 63 2=some (2,1)/\
 oO fo 63 3=some (3,3)/\
 kT fo 63 3=some (3,1)/\
 oO fo 63 4=some (4,49)/\
 kT fo 63 4=some (4,5)/\
 l8 fo 63=none/\
 mD fo 63=some [.int .i64 0,.int .i64 0,.int .i64 0,.int .i64 0,.int .i64 0,.int .i64 0,.str fw,.kF true 0 [],.kF true 0 []]/\
 pg fo 63=false/\
 lT fo 63=true/\
 nn fo 63=true/\
 mN fo 72=some (false,1)/\
 l8 fo 72=none/\
 mD fo 72=some [.sV .nilFunc]/\
 pg fo 72=false/\
 lT fo 72=true/\
 nn fo 72=true/\
 mN fo 74=some (false,1)/\
 l8 fo 74=none/\
 mD fo 74=some [.sV .nilFunc]/\
 pg fo 74=false/\
 lT fo 74=true/\
 nn fo 74=true/\
 mN fo 76=some (false,1)/\
 l8 fo 76=none/\
 mD fo 76=some [.sV (.pointer none)]/\
 pg fo 76=false/\
 lT fo 76=true/\
 nn fo 76=true/\
 mN fo 85=some (true,2):=
 ⟨jN,jN,jN,jN,jN,jN,jN,jN,jN,jN,jN,jN,jN,jN,jN,jN,jN,jN,jN,jN,jN,jN,jN,jN,jN,jN,jN,jN,jN,jN,jN,jN,jN,jN,jN,jN,jN,jN,jN,jN,jN,jN,jN,jN,jN,jN,jN,jN,jN,jN,jN,jN,jN,jN,jN,jN,jN,jN,jN,jN,jN,jN,jN,jN,jN,jN,jN,jN,jN,jN,jN,jN,jN,jN,jN,jN,jN,jN,jN,jN,jN,jN,jN,jN,jN,jN,jN,jN,jN,jN,jN,jN,jN,jN,jN,jN,jN,jN,jN,jN,jN,jN,jN,jN,jN,jN,jN,jN,jN,jN,jN,jN,jN,jN,jN,jN,jN,jN,jN,jN⟩
def tf2:
 rW fo 85=true/\
 oO fo 85 0=some (0,28)/\
 kT fo 85 0=some (0,1)/\
 oO fo 85 1=some (1,3)/\
 kT fo 85 1=some (1,1)/\
 l8 fo 85=none/\
 mD fo 85=some [.int .i64 0,.int .i64 0]/\
 pg fo 85=false/\
 lT fo 85=true/\
 nn fo 85=true/\
 mN fo 87=some (false,1)/\
 l8 fo 87=none/\
 mD fo 87=some [.sV (.pointer none)]/\
 pg fo 87=false/\
 lT fo 87=true/\
 nn fo 87=true/\
 mN fo 96=some (false,1)/\
 l8 fo 96=some (116,2,16)/\
 mD fo 96=some [.kF true 0 []]/\
 pg fo 96=false/\
 lT fo 96=true/\
 nn fo 96=true/\
 mN fo 98=some (true,2)/\
 rW fo 98=true/\
 oO fo 98 0=some (0,3)/\
 kT fo 98 0=some (0,1)/\
 oO fo 98 1=some (1,96)/\
 kT fo 98 1=some (1,1)/\
 l8 fo 98=none/\
 mD fo 98=some [.int .i64 0,.kF true 0 []]/\
 pg fo 98=false/\
 lT fo 98=true/\
 nn fo 98=true/\
 mN fo 99=some (false,1)/\
 l8 fo 99=none/\
 mD fo 99=some [.sV .nilFunc]/\
 pg fo 99=false/\
 lT fo 99=true/\
 nn fo 99=true/\
 mN fo 100=some (false,1)/\
 l8 fo 100=none/\
 mD fo 100=some [.sV (.pointer none)]/\
 pg fo 100=false/\
 lT fo 100=true/\
 nn fo 100=true/\
 mN fo 102=some (false,1)/\
 l8 fo 102=some (9,1,16)/\
 mD fo 102=some [.kF true 0 []]/\
 pg fo 102=false/\
 lT fo 102=true/\
 nn fo 102=true/\
 mN fo 104=some (true,11)/\
 rW fo 104=true/\
 oO fo 104 0=some (0,45)/\
 kT fo 104 0=some (0,7)/\
 oO fo 104 1=some (7,102)/\
 kT fo 104 1=some (7,1)/\
 oO fo 104 2=some (8,23)/\
 kT fo 104 2=some (8,1)/\
 oO fo 104 3=some (9,23)/\
 kT fo 104 3=some (9,1)/\
 oO fo 104 4=some (10,23)/\
 kT fo 104 4=some (10,1)/\
 l8 fo 104=none/\
 mD fo 104=some [.kF true 0 [],.kF true 0 [],.kF true 0 [],.kF true 0 [],.kF true 0 [],.kF true 0 [],.kF true 0 [],.kF true 0 [],.kF true 0 [],.kF true 0 [],.kF true 0 []]/\
 pg fo 104=false/\
 lT fo 104=true/\
 nn fo 104=true/\
 mN fo 110=some (false,1)/\
 l8 fo 110=some (114,2,24)/\
 mD fo 110=some [.kF true 0 []]/\
 pg fo 110=false/\
 lT fo 110=true/\
 nn fo 110=true/\
 mN fo 112=some (true,2)/\
 rW fo 112=true/\
 oO fo 112 0=some (0,4)/\
 kT fo 112 0=some (0,1)/\
 oO fo 112 1=some (1,110)/\
 kT fo 112 1=some (1,1)/\
 l8 fo 112=none/\
 mD fo 112=some [.bool false,.kF true 0 []]/\
 pg fo 112=false/\
 lT fo 112=true/\
 nn fo 112=true/\
 mN fo 114=some (true,2)/\
 rW fo 114=true/\
 oO fo 114 0=some (0,9)/\
 kT fo 114 0=some (0,1)/\
 oO fo 114 1=some (1,3)/\
 kT fo 114 1=some (1,1)/\
 l8 fo 114=none/\
 mD fo 114=some [.str fw,.int .i64 0]/\
 pg fo 114=false/\
 lT fo 114=true/\
 nn fo 114=true/\
 mN fo 116=some (true,2)/\
 rW fo 116=true/\
 oO fo 116 0=some (0,3)/\
 kT fo 116 0=some (0,1)/\
 oO fo 116 1=some (1,3)/\
 kT fo 116 1=some (1,1)/\
 l8 fo 116=none/\
 mD fo 116=some [.int .i64 0,.int .i64 0]/\
 pg fo 116=false/\
 lT fo 116=true/\
 nn fo 116=true/\
 mN fo 118=some (false,1)/\
 l8 fo 118=none/\
 mD fo 118=some [.sV (.map none)]/\
 aeQ fo 118=none/\
 apS fo 118=true/\
 pg fo 118=false/\
 lT fo 118=true/\
 nn fo 118=true/\
 mN fo 126=some (false,1)/\
 l8 fo 126=some (199,6,96)/\
 mD fo 126=some [.kF true 0 []]/\
 pg fo 126=false/\
 lT fo 126=true:=
 ⟨jN,jN,jN,jN,jN,jN,jN,jN,jN,jN,jN,jN,jN,jN,jN,jN,jN,jN,jN,jN,jN,jN,jN,jN,jN,jN,jN,jN,jN,jN,jN,jN,jN,jN,jN,jN,jN,jN,jN,jN,jN,jN,jN,jN,jN,jN,jN,jN,jN,jN,jN,jN,jN,jN,jN,jN,jN,jN,jN,jN,jN,jN,jN,jN,jN,jN,jN,jN,jN,jN,jN,jN,jN,jN,jN,jN,jN,jN,jN,jN,jN,jN,jN,jN,jN,jN,jN,jN,jN,jN,jN,jN,jN,jN,jN,jN,jN,jN,jN,jN,jN,jN,jN,jN,jN,jN,jN,jN,jN,jN,jN,jN,jN,jN,jN,jN,jN,jN,jN,jN⟩
def tf3:
 nn fo 126=true/\
 mN fo 128=some (true,7)/\
 rW fo 128=true/\
 oO fo 128 0=some (0,3)/\
 kT fo 128 0=some (0,1)/\
 oO fo 128 1=some (1,49)/\
 kT fo 128 1=some (1,5)/\
 oO fo 128 2=some (6,47)/\
 kT fo 128 2=some (6,1)/\
 l8 fo 128=none/\
 mD fo 128=some [.int .i64 0,.int .i64 0,.int .i64 0,.str fw,.kF true 0 [],.kF true 0 [],.kF true 0 []]/\
 pg fo 128=false/\
 lT fo 128=true/\
 nn fo 128=true/\
 mN fo 129=some (false,1)/\
 l8 fo 129=some (204,15,224)/\
 mD fo 129=some [.kF true 0 []]/\
 pg fo 129=false/\
 lT fo 129=true/\
 nn fo 129=true/\
 mN fo 131=some (true,23)/\
 rW fo 131=true/\
 oO fo 131 0=some (0,3)/\
 kT fo 131 0=some (0,1)/\
 oO fo 131 1=some (1,9)/\
 kT fo 131 1=some (1,1)/\
 oO fo 131 2=some (2,3)/\
 kT fo 131 2=some (2,1)/\
 oO fo 131 3=some (3,49)/\
 kT fo 131 3=some (3,5)/\
 oO fo 131 4=some (8,49)/\
 kT fo 131 4=some (8,5)/\
 oO fo 131 5=some (13,3)/\
 kT fo 131 5=some (13,1)/\
 oO fo 131 6=some (14,126)/\
 kT fo 131 6=some (14,1)/\
 oO fo 131 7=some (15,128)/\
 kT fo 131 7=some (15,7)/\
 oO fo 131 8=some (22,129)/\
 kT fo 131 8=some (22,1)/\
 l8 fo 131=none/\
 mD fo 131=some [.int .i64 0,.str fw,.int .i64 0,.int .i64 0,.int .i64 0,.str fw,.kF true 0 [],.kF true 0 [],.int .i64 0,.int .i64 0,.str fw,.kF true 0 [],.kF true 0 [],.int .i64 0,.kF true 0 [],.int .i64 0,.int .i64 0,.int .i64 0,.str fw,.kF true 0 [],.kF true 0 [],.kF true 0 [],.kF true 0 []]/\
 pg fo 131=false/\
 lT fo 131=true/\
 nn fo 131=true/\
 mN fo 134=some (false,1)/\
 l8 fo 134=none/\
 mD fo 134=some [.sV .nilFunc]/\
 pg fo 134=false/\
 lT fo 134=true/\
 nn fo 134=true/\
 mN fo 135=some (false,1)/\
 l8 fo 135=none/\
 mD fo 135=some [.sV (.pointer none)]/\
 pg fo 135=false/\
 lT fo 135=true/\
 nn fo 135=true/\
 mN fo 136=some (false,1)/\
 l8 fo 136=none/\
 mD fo 136=some [.sV (.pointer none)]/\
 pg fo 136=false/\
 lT fo 136=true/\
 nn fo 136=true/\
 mN fo 137=some (false,1)/\
 l8 fo 137=some (5,1,1)/\
 mD fo 137=some [.kF true 0 []]/\
 pg fo 137=false/\
 lT fo 137=true/\
 nn fo 137=true/\
 mN fo 139=some (true,2)/\
 rW fo 139=true/\
 oO fo 139 0=some (0,136)/\
 kT fo 139 0=some (0,1)/\
 oO fo 139 1=some (1,137)/\
 kT fo 139 1=some (1,1)/\
 l8 fo 139=none/\
 mD fo 139=some [.sV (.pointer none),.kF true 0 []]/\
 pg fo 139=false/\
 lT fo 139=true/\
 nn fo 139=true/\
 mN fo 141=some (true,4)/\
 rW fo 141=true/\
 oO fo 141 0=some (0,139)/\
 kT fo 141 0=some (0,2)/\
 oO fo 141 1=some (2,22)/\
 kT fo 141 1=some (2,1)/\
 oO fo 141 2=some (3,4)/\
 kT fo 141 2=some (3,1)/\
 l8 fo 141=none/\
 mD fo 141=some [.sV (.pointer none),.kF true 0 [],.kF true 0 [],.bool false]/\
 pg fo 141=false/\
 lT fo 141=true/\
 nn fo 141=true/\
 mN fo 142=some (false,1)/\
 l8 fo 142=none/\
 mD fo 142=some [.sV .nilFunc]/\
 pg fo 142=false/\
 lT fo 142=true/\
 nn fo 142=true/\
 mN fo 147=some (false,1)/\
 l8 fo 147=none/\
 mD fo 147=some [.sV (.map none)]/\
 aeQ fo 147=some (.agg [.kF true 0 [],.int .i64 0,.int .i64 0,.str fw])/\
 pg fo 147=false/\
 lT fo 147=true/\
 nn fo 147=true/\
 mN fo 148=some (false,1)/\
 l8 fo 148=none/\
 mD fo 148=some [.sV (.map none)]/\
 aeQ fo 148=some (.bool false)/\
 pg fo 148=false/\
 lT fo 148=true/\
 nn fo 148=true/\
 mN fo 150=some (true,4)/\
 rW fo 150=true/\
 oO fo 150 0=some (0,147)/\
 kT fo 150 0=some (0,1)/\
 oO fo 150 1=some (1,147)/\
 kT fo 150 1=some (1,1)/\
 oO fo 150 2=some (2,148):=
 ⟨jN,jN,jN,jN,jN,jN,jN,jN,jN,jN,jN,jN,jN,jN,jN,jN,jN,jN,jN,jN,jN,jN,jN,jN,jN,jN,jN,jN,jN,jN,jN,jN,jN,jN,jN,jN,jN,jN,jN,jN,jN,jN,jN,jN,jN,jN,jN,jN,jN,jN,jN,jN,jN,jN,jN,jN,jN,jN,jN,jN,jN,jN,jN,jN,jN,jN,jN,jN,jN,jN,jN,jN,jN,jN,jN,jN,jN,jN,jN,jN,jN,jN,jN,jN,jN,jN,jN,jN,jN,jN,jN,jN,jN,jN,jN,jN,jN,jN,jN,jN,jN,jN,jN,jN,jN,jN,jN,jN,jN,jN,jN,jN,jN,jN,jN,jN,jN,jN,jN,jN⟩
def tf4:
 kT fo 150 2=some (2,1)/\
 oO fo 150 3=some (3,3)/\
 kT fo 150 3=some (3,1)/\
 l8 fo 150=none/\
 mD fo 150=some [.sV (.map none),.sV (.map none),.sV (.map none),.int .i64 0]/\
 pg fo 150=false/\
 lT fo 150=true/\
 nn fo 150=true/\
 mN fo 155=some (false,1)/\
 l8 fo 155=some (170,3,32)/\
 mD fo 155=some [.kF true 0 []]/\
 pg fo 155=false/\
 lT fo 155=true/\
 nn fo 155=true/\
 mN fo 157=some (true,3)/\
 rW fo 157=true/\
 oO fo 157 0=some (0,155)/\
 kT fo 157 0=some (0,1)/\
 oO fo 157 1=some (1,3)/\
 kT fo 157 1=some (1,1)/\
 oO fo 157 2=some (2,3)/\
 kT fo 157 2=some (2,1)/\
 l8 fo 157=none/\
 mD fo 157=some [.kF true 0 [],.int .i64 0,.int .i64 0]/\
 pg fo 157=false/\
 lT fo 157=true/\
 nn fo 157=true/\
 mN fo 160=some (true,6)/\
 rW fo 160=true/\
 oO fo 160 0=some (0,157)/\
 kT fo 160 0=some (0,3)/\
 oO fo 160 1=some (3,22)/\
 kT fo 160 1=some (3,1)/\
 oO fo 160 2=some (4,23)/\
 kT fo 160 2=some (4,1)/\
 oO fo 160 3=some (5,3)/\
 kT fo 160 3=some (5,1)/\
 l8 fo 160=none/\
 mD fo 160=some [.kF true 0 [],.int .i64 0,.int .i64 0,.kF true 0 [],.kF true 0 [],.int .i64 0]/\
 pg fo 160=false/\
 lT fo 160=true/\
 nn fo 160=true/\
 mN fo 166=some (false,1)/\
 l8 fo 166=some (225,9,136)/\
 mD fo 166=some [.kF true 0 []]/\
 pg fo 166=false/\
 lT fo 166=true/\
 nn fo 166=true/\
 mN fo 170=some (true,3)/\
 rW fo 170=true/\
 oO fo 170 0=some (0,3)/\
 kT fo 170 0=some (0,1)/\
 oO fo 170 1=some (1,9)/\
 kT fo 170 1=some (1,1)/\
 oO fo 170 2=some (2,3)/\
 kT fo 170 2=some (2,1)/\
 l8 fo 170=none/\
 mD fo 170=some [.int .i64 0,.str fw,.int .i64 0]/\
 pg fo 170=false/\
 lT fo 170=true/\
 nn fo 170=true/\
 mN fo 175=some (false,1)/\
 l8 fo 175=none/\
 mD fo 175=some [.sV .nilFunc]/\
 pg fo 175=false/\
 lT fo 175=true/\
 nn fo 175=true/\
 mN fo 187=some (false,1)/\
 l8 fo 187=none/\
 mD fo 187=some [.sV .nilFunc]/\
 pg fo 187=false/\
 lT fo 187=true/\
 nn fo 187=true/\
 mN fo 199=some (true,6)/\
 rW fo 199=true/\
 oO fo 199 0=some (0,9)/\
 kT fo 199 0=some (0,1)/\
 oO fo 199 1=some (1,49)/\
 kT fo 199 1=some (1,5)/\
 l8 fo 199=none/\
 mD fo 199=some [.str fw,.int .i64 0,.int .i64 0,.str fw,.kF true 0 [],.kF true 0 []]/\
 pg fo 199=false/\
 lT fo 199=true/\
 nn fo 199=true/\
 mN fo 200=some (false,1)/\
 l8 fo 200=some (345,10,144)/\
 mD fo 200=some [.kF true 0 []]/\
 pg fo 200=false/\
 lT fo 200=true/\
 nn fo 200=true/\
 mN fo 202=some (true,8)/\
 rW fo 202=true/\
 oO fo 202 0=some (0,3)/\
 kT fo 202 0=some (0,1)/\
 oO fo 202 1=some (1,49)/\
 kT fo 202 1=some (1,5)/\
 oO fo 202 2=some (6,3)/\
 kT fo 202 2=some (6,1)/\
 oO fo 202 3=some (7,200)/\
 kT fo 202 3=some (7,1)/\
 l8 fo 202=none/\
 mD fo 202=some [.int .i64 0,.int .i64 0,.int .i64 0,.str fw,.kF true 0 [],.kF true 0 [],.int .i64 0,.kF true 0 []]/\
 pg fo 202=false/\
 lT fo 202=true/\
 nn fo 202=true/\
 mN fo 204=some (true,15)/\
 rW fo 204=true/\
 oO fo 204 0=some (0,9)/\
 kT fo 204 0=some (0,1)/\
 oO fo 204 1=some (1,49)/\
 kT fo 204 1=some (1,5)/\
 oO fo 204 2=some (6,3)/\
 kT fo 204 2=some (6,1)/\
 oO fo 204 3=some (7,202)/\
 kT fo 204 3=some (7,8)/\
 l8 fo 204=none/\
 mD fo 204=some [.str fw,.int .i64 0,.int .i64 0,.str fw,.kF true 0 [],.kF true 0 [],.int .i64 0,.int .i64 0,.int .i64 0,.int .i64 0,.str fw,.kF true 0 [],.kF true 0 [],.int .i64 0,.kF true 0 []]/\
 pg fo 204=false/\
 lT fo 204=true/\
 nn fo 204=true:=
 ⟨jN,jN,jN,jN,jN,jN,jN,jN,jN,jN,jN,jN,jN,jN,jN,jN,jN,jN,jN,jN,jN,jN,jN,jN,jN,jN,jN,jN,jN,jN,jN,jN,jN,jN,jN,jN,jN,jN,jN,jN,jN,jN,jN,jN,jN,jN,jN,jN,jN,jN,jN,jN,jN,jN,jN,jN,jN,jN,jN,jN,jN,jN,jN,jN,jN,jN,jN,jN,jN,jN,jN,jN,jN,jN,jN,jN,jN,jN,jN,jN,jN,jN,jN,jN,jN,jN,jN,jN,jN,jN,jN,jN,jN,jN,jN,jN,jN,jN,jN,jN,jN,jN,jN,jN,jN,jN,jN,jN,jN,jN,jN,jN,jN,jN,jN,jN,jN,jN,jN,jN⟩
def tf5:
 mN fo 222=some (false,1)/\
 l8 fo 222=none/\
 mD fo 222=some [.sV (.pointer none)]/\
 pg fo 222=false/\
 lT fo 222=true/\
 nn fo 222=true/\
 mN fo 225=some (true,9)/\
 rW fo 225=true/\
 oO fo 225 0=some (0,9)/\
 kT fo 225 0=some (0,1)/\
 oO fo 225 1=some (1,37)/\
 kT fo 225 1=some (1,8)/\
 l8 fo 225=none/\
 mD fo 225=some [.str fw,.int .i64 0,.str fw,.int .i64 0,.kF true 0 [],.kF true 0 [],.kF true 0 [],.int .i64 0,.int .i64 0]/\
 pg fo 225=false/\
 lT fo 225=true/\
 nn fo 225=true/\
 mN fo 234=some (false,1)/\
 l8 fo 234=none/\
 mD fo 234=some [.sV .nilFunc]/\
 pg fo 234=false/\
 lT fo 234=true/\
 nn fo 234=true/\
 mN fo 236=some (true,5)/\
 rW fo 236=true/\
 oO fo 236 0=some (0,4)/\
 kT fo 236 0=some (0,1)/\
 oO fo 236 1=some (1,4)/\
 kT fo 236 1=some (1,1)/\
 oO fo 236 2=some (2,3)/\
 kT fo 236 2=some (2,1)/\
 oO fo 236 3=some (3,3)/\
 kT fo 236 3=some (3,1)/\
 oO fo 236 4=some (4,3)/\
 kT fo 236 4=some (4,1)/\
 l8 fo 236=none/\
 mD fo 236=some [.bool false,.bool false,.int .i64 0,.int .i64 0,.int .i64 0]/\
 pg fo 236=false/\
 lT fo 236=true/\
 nn fo 236=true/\
 mN fo 237=some (true,65)/\
 auD fo 237=some (13,5)/\
 rW fo 237=true/\
 kT fo 237 0=some (0,5)/\
 kT fo 237 1=some (5,5)/\
 kT fo 237 2=some (10,5)/\
 kT fo 237 3=some (15,5)/\
 kT fo 237 4=some (20,5)/\
 kT fo 237 5=some (25,5)/\
 kT fo 237 6=some (30,5)/\
 kT fo 237 7=some (35,5)/\
 kT fo 237 8=some (40,5)/\
 kT fo 237 9=some (45,5)/\
 kT fo 237 10=some (50,5)/\
 kT fo 237 11=some (55,5)/\
 kT fo 237 12=some (60,5)/\
 l8 fo 237=none/\
 mD fo 237=some [.bool false,.bool false,.int .i64 0,.int .i64 0,.int .i64 0,.bool false,.bool false,.int .i64 0,.int .i64 0,.int .i64 0,.bool false,.bool false,.int .i64 0,.int .i64 0,.int .i64 0,.bool false,.bool false,.int .i64 0,.int .i64 0,.int .i64 0,.bool false,.bool false,.int .i64 0,.int .i64 0,.int .i64 0,.bool false,.bool false,.int .i64 0,.int .i64 0,.int .i64 0,.bool false,.bool false,.int .i64 0,.int .i64 0,.int .i64 0,.bool false,.bool false,.int .i64 0,.int .i64 0,.int .i64 0,.bool false,.bool false,.int .i64 0,.int .i64 0,.int .i64 0,.bool false,.bool false,.int .i64 0,.int .i64 0,.int .i64 0,.bool false,.bool false,.int .i64 0,.int .i64 0,.int .i64 0,.bool false,.bool false,.int .i64 0,.int .i64 0,.int .i64 0,.bool false,.bool false,.int .i64 0,.int .i64 0,.int .i64 0]/\
 pg fo 237=false/\
 lT fo 237=true/\
 nn fo 237=true/\
 mN fo 240=some (true,13)/\
 auD fo 240=some (13,1)/\
 rW fo 240=true/\
 apT fo 240=some 13/\
 kT fo 240 0=some (0,1)/\
 kT fo 240 1=some (1,1)/\
 kT fo 240 2=some (2,1)/\
 kT fo 240 3=some (3,1)/\
 kT fo 240 4=some (4,1)/\
 kT fo 240 5=some (5,1)/\
 kT fo 240 6=some (6,1)/\
 kT fo 240 7=some (7,1)/\
 kT fo 240 8=some (8,1)/\
 kT fo 240 9=some (9,1)/\
 kT fo 240 10=some (10,1)/\
 kT fo 240 11=some (11,1)/\
 kT fo 240 12=some (12,1)/\
 l8 fo 240=none/\
 mD fo 240=some [.int .i64 0,.int .i64 0,.int .i64 0,.int .i64 0,.int .i64 0,.int .i64 0,.int .i64 0,.int .i64 0,.int .i64 0,.int .i64 0,.int .i64 0,.int .i64 0,.int .i64 0]/\
 pg fo 240=false/\
 lT fo 240=true/\
 nn fo 240=true/\
 mN fo 244=some (false,1)/\
 l8 fo 244=none/\
 mD fo 244=some [.sV .nilFunc]/\
 pg fo 244=false/\
 lT fo 244=true/\
 nn fo 244=true/\
 mN fo 247=some (false,1)/\
 l8 fo 247=some (3,1,8)/\
 mD fo 247=some [.kF true 0 []]/\
 pg fo 247=false/\
 lT fo 247=true/\
 nn fo 247=true/\
 mN fo 267=some (false,1)/\
 l8 fo 267=none/\
 mD fo 267=some [.sV (.pointer none)]/\
 pg fo 267=false/\
 lT fo 267=true/\
 nn fo 267=true/\
 mN fo 270=some (true,5)/\
 rW fo 270=true/\
 oO fo 270 0=some (0,9)/\
 kT fo 270 0=some (0,1)/\
 oO fo 270 1=some (1,3)/\
 kT fo 270 1=some (1,1)/\
 oO fo 270 2=some (2,148)/\
 kT fo 270 2=some (2,1)/\
 oO fo 270 3=some (3,148)/\
 kT fo 270 3=some (3,1)/\
 oO fo 270 4=some (4,148)/\
 kT fo 270 4=some (4,1)/\
 l8 fo 270=none/\
 mD fo 270=some [.str fw,.int .i64 0,.sV (.map none),.sV (.map none),.sV (.map none)]/\
 pg fo 270=false/\
 lT fo 270=true/\
 nn fo 270=true/\
 mN fo 271=some (false,1)/\
 l8 fo 271=some (23,1,24):=
 ⟨jN,jN,jN,jN,jN,jN,jN,jN,jN,jN,jN,jN,jN,jN,jN,jN,jN,jN,jN,jN,jN,jN,jN,jN,jN,jN,jN,jN,jN,jN,jN,jN,jN,jN,jN,jN,jN,jN,jN,jN,jN,jN,jN,jN,jN,jN,jN,jN,jN,jN,jN,jN,jN,jN,jN,jN,jN,jN,jN,jN,jN,jN,jN,jN,jN,jN,jN,jN,jN,jN,jN,jN,jN,jN,jN,jN,jN,jN,jN,jN,jN,jN,jN,jN,jN,jN,jN,jN,jN,jN,jN,jN,jN,jN,jN,jN,jN,jN,jN,jN,jN,jN,jN,jN,jN,jN,jN,jN,jN,jN,jN,jN,jN,jN,jN,jN,jN,jN,jN,jN⟩
def tf6:
 mD fo 271=some [.kF true 0 []]/\
 pg fo 271=false/\
 lT fo 271=true/\
 nn fo 271=true/\
 mN fo 272=some (false,1)/\
 l8 fo 272=none/\
 mD fo 272=some [.sV .nilFunc]/\
 pg fo 272=false/\
 lT fo 272=true/\
 nn fo 272=true/\
 mN fo 273=some (true,4)/\
 auD fo 273=some (4,1)/\
 rW fo 273=true/\
 kT fo 273 0=some (0,1)/\
 kT fo 273 1=some (1,1)/\
 kT fo 273 2=some (2,1)/\
 kT fo 273 3=some (3,1)/\
 l8 fo 273=none/\
 mD fo 273=some [.sV .nilFunc,.sV .nilFunc,.sV .nilFunc,.sV .nilFunc]/\
 pg fo 273=false/\
 lT fo 273=true/\
 nn fo 273=true/\
 mN fo 281=some (false,1)/\
 l8 fo 281=none/\
 mD fo 281=some [.sV .nilFunc]/\
 pg fo 281=false/\
 lT fo 281=true/\
 nn fo 281=true/\
 mN fo 285=some (false,1)/\
 l8 fo 285=some (9,1,16)/\
 mD fo 285=some [.kF true 0 []]/\
 pg fo 285=false/\
 lT fo 285=true/\
 nn fo 285=true/\
 mN fo 308=some (false,1)/\
 l8 fo 308=none/\
 mD fo 308=some [.sV (.pointer none)]/\
 pg fo 308=false/\
 lT fo 308=true/\
 nn fo 308=true/\
 mN fo 310=some (true,3)/\
 rW fo 310=true/\
 oO fo 310 0=some (0,76)/\
 kT fo 310 0=some (0,1)/\
 oO fo 310 1=some (1,35)/\
 kT fo 310 1=some (1,1)/\
 oO fo 310 2=some (2,3)/\
 kT fo 310 2=some (2,1)/\
 l8 fo 310=none/\
 mD fo 310=some [.sV (.pointer none),.kF true 0 [],.int .i64 0]/\
 pg fo 310=false/\
 lT fo 310=true/\
 nn fo 310=true/\
 mN fo 312=some (true,0)/\
 rW fo 312=true/\
 l8 fo 312=none/\
 mD fo 312=some []/\
 pg fo 312=false/\
 lT fo 312=true/\
 nn fo 312=true/\
 mN fo 325=some (false,1)/\
 l8 fo 325=none/\
 mD fo 325=some [.sV (.pointer none)]/\
 pg fo 325=false/\
 lT fo 325=true/\
 nn fo 325=true/\
 mN fo 327=some (true,1)/\
 rW fo 327=true/\
 oO fo 327 0=some (0,147)/\
 kT fo 327 0=some (0,1)/\
 l8 fo 327=none/\
 mD fo 327=some [.sV (.map none)]/\
 pg fo 327=false/\
 lT fo 327=true/\
 nn fo 327=true/\
 mN fo 330=some (true,256)/\
 auD fo 330=some (256,1)/\
 rW fo 330=true/\
 apT fo 330=some 256/\
 l8 fo 330=none/\
 pg fo 330=false/\
 lT fo 330=true/\
 nn fo 330=true/\
 mN fo 332=some (false,1)/\
 l8 fo 332=none/\
 mD fo 332=some [.sV .nilFunc]/\
 pg fo 332=false/\
 lT fo 332=true/\
 nn fo 332=true/\
 mN fo 337=some (true,256)/\
 auD fo 337=some (256,1)/\
 rW fo 337=true/\
 l8 fo 337=none/\
 pg fo 337=false/\
 lT fo 337=true/\
 nn fo 337=true/\
 mN fo 345=some (true,10)/\
 rW fo 345=true/\
 oO fo 345 0=some (0,9)/\
 kT fo 345 0=some (0,1)/\
 oO fo 345 1=some (1,4)/\
 kT fo 345 1=some (1,1)/\
 oO fo 345 2=some (2,202)/\
 kT fo 345 2=some (2,8)/\
 l8 fo 345=none/\
 mD fo 345=some [.str fw,.bool false,.int .i64 0,.int .i64 0,.int .i64 0,.str fw,.kF true 0 [],.kF true 0 [],.int .i64 0,.kF true 0 []]/\
 pg fo 345=false/\
 lT fo 345=true/\
 nn fo 345=true/\
 mN fo 347=some (true,25)/\
 rW fo 347=true/\
 oO fo 347 0=some (0,42)/\
 kT fo 347 0=some (0,1)/\
 oO fo 347 1=some (1,23)/\
 kT fo 347 1=some (1,1)/\
 oO fo 347 2=some (2,131)/\
 kT fo 347 2=some (2,23)/\
 l8 fo 347=none/\
 mD fo 347=some [.kF true 0 [],.kF true 0 [],.int .i64 0,.str fw,.int .i64 0,.int .i64 0,.int .i64 0,.str fw,.kF true 0 [],.kF true 0 [],.int .i64 0,.int .i64 0,.str fw,.kF true 0 [],.kF true 0 [],.int .i64 0,.kF true 0 [],.int .i64 0,.int .i64 0,.int .i64 0,.str fw,.kF true 0 [],.kF true 0 [],.kF true 0 [],.kF true 0 []]/\
 pg fo 347=false:=
 ⟨jN,jN,jN,jN,jN,jN,jN,jN,jN,jN,jN,jN,jN,jN,jN,jN,jN,jN,jN,jN,jN,jN,jN,jN,jN,jN,jN,jN,jN,jN,jN,jN,jN,jN,jN,jN,jN,jN,jN,jN,jN,jN,jN,jN,jN,jN,jN,jN,jN,jN,jN,jN,jN,jN,jN,jN,jN,jN,jN,jN,jN,jN,jN,jN,jN,jN,jN,jN,jN,jN,jN,jN,jN,jN,jN,jN,jN,jN,jN,jN,jN,jN,jN,jN,jN,jN,jN,jN,jN,jN,jN,jN,jN,jN,jN,jN,jN,jN,jN,jN,jN,jN,jN,jN,jN,jN,jN,jN,jN,jN,jN,jN,jN,jN,jN,jN,jN,jN,jN,jN⟩
def tf7:
 lT fo 347=true/\
 nn fo 347=true/\
 mN fo 389=some (false,1)/\
 l8 fo 389=none/\
 mD fo 389=some [.sV (.pointer none)]/\
 pg fo 389=false/\
 lT fo 389=true/\
 nn fo 389=true/\
 mN fo 432=some (true,2)/\
 rW fo 432=true/\
 oO fo 432 0=some (0,9)/\
 kT fo 432 0=some (0,1)/\
 oO fo 432 1=some (1,247)/\
 kT fo 432 1=some (1,1)/\
 l8 fo 432=none/\
 mD fo 432=some [.str fw,.kF true 0 []]/\
 pg fo 432=false/\
 lT fo 432=true/\
 nn fo 432=true/\
 tbl fo 4=true/\
 aBY fo 20=true/\
 axa fo=true:=
 ⟨jN,jN,jN,jN,jN,jN,jN,jN,jN,jN,jN,jN,jN,jN,jN,jN,jN,jN,jN,jN,jN,jN⟩
def mixed:Tryz.prog.follows .mixedOrders=true:=jN
attribute [go_sem] tf0 tf1 tf2 tf3 tf4 tf5 tf6 tf7
open Go.Proofs
set_option maxRecDepth 100000
def kp.aO0(a b:kp):av1 fo 116 a.cells b.cells=True:=by
 refine eq_true (aDj (jN) (jN) (jN) ?_);rw[kp.jV,kp.jV];exact⟨⟨by decide,jN,jN,rfl,.i64,jN⟩,⟨by decide,jN,jN,rfl,.i64,jN⟩,trivial⟩
def kp.eqB(a b:kp):Go.Abs.eqB a.cells b.cells=((a.index==b.index)&&(a.plus==b.plus)):=by
 rw[kp.jV,kp.jV];simp only[Go.Abs.eqB,eq1,abi,Bool.and_true]
attribute [go_sem] kp.aO0 kp.eqB
def lz.sc(x:lz):x.cells.map sc1=x.cells:=by
 rw[lz.jV];rfl
attribute [go_sem] lz.sc
def jR.aO1:∀x y:jR,((kZ jR.kv)).enc x=((kZ jR.kv)).enc y->x=y:=fun x y h=>by
 have h2:jR.cells x=jR.cells y:=AV.agg.inj h;have h3:jR.of [] x.cells=jR.of [] y.cells:=by rw[h2]
 rw[jR.l9,jR.l9]at h3;exact Option.some.inj h3
def jR.aQc:(∀xs,alJ (kZ jR.kv) (.map (mp (PX (kZ jR.kv)) xs))=some xs)/\alJ (kZ jR.kv) (.map [])=some []/\alJ (kZ jR.kv) (.map (mp GI []))=some []:=aIg jR.aO1
def jR.aO2(l:Nat)(s:kj)(v:jR)(xs:List (kj×jR)):CV l (sb s) (.agg v.cells) (some (.map (mp (PX (kZ jR.kv)) xs)))=some {val:=.any,rd:=[l],up:=[(l,.map (mp (PX (kZ jR.kv)) (aeX s v xs)))]}:=by
 have:=aKF (t:=(kZ jR.kv)) (l:=l) (s:=s) (v:=v) (xs:=xs)
 rwa [show((kZ jR.kv)).enc v=.agg v.cells from rfl]at this
attribute [go_sem] jR.aQc jR.aO2
abbrev Te:Type:=(jP×Unit)
abbrev T6:Type:=(Te×Unit)
abbrev Tb:Type:=(List (kj×jR))
abbrev Ta:Type:=(List (kj×Bool))
abbrev T7:Type:=((Int×Unit)×(Tb×(Tb×(Ta×Unit))))
abbrev T8:Type:=(kf×Unit)
abbrev T9:Type:=(((List jR)×(Bool×Unit))×(kj×Unit))
abbrev Tc:Type:=(((List Syntax)×(Int×Unit))×T7)
abbrev Td:Type:=(PR (T6×(Syntax×Unit)) (T6×T8))
abbrev Tf:Type:=((List kj)×Unit)
abbrev Tg:Type:=((Unit×Int)×((Int×Unit)×((Bool×Unit)×Unit)))
abbrev Th:Type:=(PR ((Te×((Syntax×Unit)×Unit))×Unit) ((Te×((Syntax×Unit)×Unit))×T8))
abbrev Ti:Type:=((Unit×Int)×(Unit×(Unit×(Ta×Tf))))
abbrev Tj:Type:=(Unit×((Syntax×Unit)×((Int×Unit)×((Int×Unit)×Tc))))
abbrev Tk:Type:=(List jX)
abbrev Tl:Type:=((Syntax×Unit)×((Int×Unit)×((Int×Unit)×Unit)))
abbrev Tm:Type:=(PR ((Te×(Unit×(Unit×((List j7)×Unit))))×Unit) ((Te×(Unit×(Unit×((List j7)×Unit))))×T8))
abbrev Tn:Type:=((kH×Unit)×((kj×Unit)×((kj×Unit)×((Int×Unit)×Unit))))
abbrev To:Type:=((kj×(Int×Unit))×(Ta×(Ta×(Ta×Unit))))
abbrev Tp:Type:=((Unit×((List Syntax)×(Tb×Unit)))×Unit)
abbrev Tq:Type:=(PR (Tc×(Syntax×(Int×Unit))) (Tc×(Unit×Unit)))
abbrev Ts:Type:=(PR ((Unit×(Unit×((List j7)×T6)))×Unit) ((Unit×(Unit×((List j7)×T6)))×T8))
abbrev Tt:Type:=((List Syntax)×Unit)
abbrev Tu:Type:=(PR (Tc×(Syntax×Unit)) (Tc×(Unit×Unit)))
abbrev Tv:Type:=(Unit×(Tb×Unit))
abbrev Tw:Type:=((Unit×Int)×((Syntax×Unit)×((Syntax×Unit)×Unit)))
abbrev TF:Type:=(List j8)
abbrev Tx:Type:=(PR (T6×(TF×Unit)) (T6×T8))
abbrev Tz:Type:=(PR (T6×Unit) (T6×T8))
abbrev TA:Type:=(PR ((Te×(Unit×(Unit×(Tk×Unit))))×Unit) ((Te×(Unit×(Unit×(Tk×Unit))))×T8))
abbrev TC:Type:=(PR (T6×((List j7)×Unit)) (T6×T8))
abbrev TD:Type:=((Unit×Int)×(Unit×(Ta×Unit)))
abbrev TE:Type:=((List Syntax)×(Bool×Unit))
abbrev TG:Type:=(To×(Int×(Int×(Int×Unit))))
abbrev TH:Type:=((List jR)×Unit)
abbrev TI:Type:=(PR ((Unit×(Unit×(Tk×T6)))×Unit) ((Unit×(Unit×(Tk×T6)))×T8))
abbrev TJ:Type:=(T6×(kj×Unit))
abbrev TK:Type:=((kj×Unit)×Unit)
abbrev TL:Type:=((List jW)×Unit)
abbrev TM:Type:=(PR (T6×(jX×Unit)) (T6×T8))
abbrev TN:Type:=(Tv×(Int×Unit))
abbrev TO:Type:=(PR (T6×Tf) (T6×T8))
abbrev TP:Type:=(PR (T6×Tt) (T6×T8))
abbrev TQ:Type:=((Unit×Int)×Tn)
abbrev TR:Type:=((List lz)×Int×Int)
abbrev TS:Type:=(Unit×((Int×Unit)×((Bool×Unit)×Unit)))
abbrev TT:Type:=(PR (Unit×(ko×Unit)) (Unit×T8))
abbrev TU:Type:=((Unit×T6)×Unit)
abbrev TV:Type:=(Syntax×Int×Int)
abbrev TW:Type:=(PR (Unit×Unit) (T7×Unit))
abbrev TX:Type:=(T9×(Int×Unit))
abbrev TY:Type:=(Tv×(jR×TE))
abbrev TZ:Type:=(PR (T7×(kj×Tf)) (T7×(kj×Tf)))
abbrev T10:Type:=(Tv×(Bool×Unit))
abbrev T11:Type:=(Unit×(Unit×(Unit×(Ta×Tf))))
abbrev T12:Type:=(T7×(Int×Unit))
abbrev T13:Type:=(PR (T6×(Int×Unit)) (T6×T8))
abbrev T14:Type:=(PR (T6×(Tk×Unit)) (T6×T8))
abbrev T15:Type:=((kj×Unit)×(Bool×Unit))
abbrev T16:Type:=((Tk×Unit)×Unit)
abbrev T17:Type:=(Tc×(kj×(Bool×Unit)))
abbrev T18:Type:=(Unit×((Syntax×Unit)×((Syntax×Unit)×Unit)))
abbrev T19:Type:=(PR (T6×Unit) (Unit×T8))
abbrev T1a:Type:=(TK×(Int×Unit))
end Go.Abs
