/- A part of the proof: the data of the program. -/
import Derived.Test.YtpdbjkgnmjnebaaGreatDoorCoreC
import Derived.Test.YtpdbjkgnmjnebaaGreatDoorProg
import Derived.KernelRfl
import Derived.Test.YtpdbjkgnmjnebaaGreatDoorCoreD
set_option linter.all false
open Go.Proofs.Tryz renaming prog→fc
open Option renaming bind_eq_some_iff→fg
open Option.some renaming injEq→fi
open ByteArray renaming empty→fj
open Bool renaming true_or→fk
namespace Go.Abs
variable {c7:AV}{cs:List AV}{H:List jT}{n:Nat}{O:Type}
set_option maxRecDepth 10000
def aqX(n:Nat)(x:Int):w5 n (aaG x):=⟨trivial,trivial⟩
def azi(n:Nat)(x:Int):w5 n (ajD x):=⟨trivial,trivial⟩
def aaN(n:Nat)(x:Str):w5 n (nY x):=⟨trivial,trivial⟩
def aqY(n:Nat)(x:Bool):w5 n (ae9 x):=⟨trivial,trivial⟩
def rA{W:Type}{f:W->List AV}{n:Nat}(h:∀x,w5 n (f x)):∀xs:List W,NC n (mp f xs)
 |[]=>by rw[qD];trivial
 |x::xs=>by have:=rA h xs;rw[qD]at this ⊢;exact⟨h x,this⟩
def DW(h:cs.length=n):mN true n cs=some (.agg cs):=by
 simp only[mN,<-h,Nat.le_refl,jE,List.take_length]
def azj:(∀(n:Nat)(xs:List Int),NC n (mp aaG xs)=True)/\(∀(n:Nat)(xs:List Int),NC n (mp ajD xs)=True)/\(∀(n:Nat)(xs:List Str),NC n (mp nY xs)=True)/\∀(n:Nat)(xs:List Bool),NC n (mp ae9 xs)=True:=⟨fun n xs=>eq_true (rA (aqX n) xs),fun n xs=>eq_true (rA (azi n) xs),fun n xs=>eq_true (rA (aaN n) xs),fun n xs=>eq_true (rA (aqY n) xs)⟩
def awG:(∀(Y:Nat->Nat)(xs:List Int),Gc Y (mp aaG xs)=mp aaG xs)/\(∀(Y:Nat->Nat)(xs:List Str),Gc Y (mp nY xs)=mp nY xs)/\∀(Y:Nat->Nat)(xs:List Bool),Gc Y (mp ae9 xs)=mp ae9 xs:=⟨fun Y xs=>wo Y _ (rA (aqX 0) xs),fun Y xs=>wo Y _ (rA (aaN 0) xs),fun Y xs=>wo Y _ (rA (aqY 0) xs)⟩
attribute [go_sem] aaG nY ae9 ajD azj awG
def KK {W:Type}{f:O->Option W}{g:W->O}(h:∀x,f (g x)=some x):∀(xs:List W)(i:Nat)(r:O),r6 f ((mp g xs).set i r)=bif decide (i<xs.length)then(f r).bind fun y=>some (xs.set i y)else some xs:=by
 intro xs;rw[qD];induction xs with
 |nil=>intro i r;simp [r6]
 |cons x xs ih=>
  intro i r;cases i with
  |zero=>
   simp only[List.map_cons,List.set_cons_zero,r6,ajC h,List.length_cons,Nat.zero_lt_succ,decide_true,jy];cases f r<;>rfl
  |succ i=>
   simp only[List.map_cons,List.set_cons_succ,r6,h,ih i r,List.length_cons,Nat.succ_lt_succ_iff,Option.bind_some];by_cases hi:i<xs.length
   ·simp only[hi,decide_true,jy];cases f r<;>rfl
   ·simp only[hi,decide_false,jz];rfl
def awH:(∀(xs:List Int)(i:Nat)(r:List AV),r6 (dI1 .i64) ((mp aaG xs).set i r)=bif decide (i<xs.length)then(dI1 .i64 r).bind fun y=>some (xs.set i y)else some xs)/\(∀(xs:List Bool)(i:Nat)(r:List AV),r6 dB1 ((mp ae9 xs).set i r)=bif decide (i<xs.length)then(dB1 r).bind fun y=>some (xs.set i y)else some xs)/\(∀(xs:List Str)(i:Nat)(r:List AV),r6 dS1 ((mp nY xs).set i r)=bif decide (i<xs.length)then(dS1 r).bind fun y=>some (xs.set i y)else some xs):=⟨KK fun x=>by simp [dI1,aaG,dI],KK fun x=>rfl,KK fun x=>rfl⟩
attribute [go_sem] awH
def amS{W O:Type}{f:O->Option W}{z:O}:∀n:Nat,r6 f (List.replicate n z)=bif n==0 then some [] else(f z).bind fun y=>some (List.replicate n y)
 |0=>rfl
 |n+1=>by
  simp only[List.replicate_succ,r6,amS n];cases f z with
  |none=>rfl
  |some y=>cases n<;>rfl
attribute [go_sem] amS
def at1{t:Bool}{z k:Nat}{r xD:List (List AV)}{o:Option O}{x:O}(LX:o=some x->OY r xD)(h:(bif Jk z k r then o else none)=some x):LY (.kW t z r) (.kW false k xD):=by
 cases hs:Jk z k r with
 |false=>simp [hs]at h
 |true=>rw[hs]at h;exact XC hs (LX h)
structure jI where
 parts:List Str
 mW:Int
 DD:Int
 target:Str
def jI.cells(x:jI):List AV:=[.kW false 1 (mp nY x.parts),.int .i64 x.mW,.int .i64 x.DD,.str (sb x.target)]
theorem jI.lO(x:jI):x.cells=[.kW false 1 (mp nY x.parts),.int .i64 x.mW,.int .i64 x.DD,.str (sb x.target)]:=rfl
theorem jI.kx(x:jI):x.cells=[.kW false 1 (mp nY x.parts),.int .i64 x.mW,.int .i64 x.DD,.str (sb x.target)]:=rfl
attribute [irreducible] jI.cells
theorem jI.length(x:jI):x.cells.length=4:=by rw[jI.kx];rfl
def jI.qM(x:jI):x.cells.all AV.qM=true:=by rw[jI.kx];rfl
theorem jI.nb(n:Nat)(x:jI):w5 n x.cells:=by
 rw[jI.lO];exact⟨rA (aaN n) _,trivial,trivial,trivial,trivial⟩
def jI.of(H:List jT):List AV->Option jI
 |[c0,c1,c2,c3]=>(dL mc H c0).bind fun x0=>(dI .i64 c1).bind fun x1=>(dI .i64 c2).bind fun x2=>(dS c3).bind fun x3=>some (.mk x0 x1 x2 x3)
 |_=>none
def jI.s4{c0 c1 c2 c3:AV}:jI.of H [c0,c1,c2,c3]=(dL mc H c0).bind fun x0=>(dI .i64 c1).bind fun x1=>(dI .i64 c2).bind fun x2=>(dS c3).bind fun x3=>some (.mk x0 x1 x2 x3):=rfl
def jI.qe(H:List jT)(x:jI):jI.of H [.kW false 1 (mp nY x.parts),.int .i64 x.mW,.int .i64 x.DD,.str (sb x.target)]=some x:=by
 simp only[jI.s4,Qu,KH,aaF,yD,Jk,beq_self_eq_true,fk,jy,dL,JG,agt]
 try (cases x;rfl)
theorem jI.sR(H:List jT)(x:jI):jI.of H x.cells=some x:=by rw[jI.kx];exact jI.qe H x
def jI.u6{x:jI}(h:jI.of H cs=some x):n7 H n cs x.cells:=by
 unfold jI.of at h;split at h
 ·simp only[fg,fi]at h;obtain⟨x0,h0,x1,h1,x2,h2,x3,h3,rfl⟩:=h;rw[jI.lO];exact(n7.cons (Mb h0) (n7.cons (yP h1) (n7.cons (yP h2) (n7.cons (VE h3) n7.nil))))
 ·cases h
def jI.kv:VF jI:=⟨jI.cells,jI.of,fun _ _ _ _ h=>jI.u6 h,jI.nb⟩
def jI.row:Row jI:=⟨jI.cells,jI.of [],4,fun _ _ h=>(jI.u6 (n:=0) h).oW,jI.nb⟩
def jI.tA(xs:List jI):r6 (jI.of []) (mp jI.cells xs)=some xs:=Jb (jI.sR []) xs
def jI.CR:jI.row.enc=jI.cells/\jI.row.mo=jI.of []/\jI.row.sz=4/\jI.kv.enc=jI.cells/\jI.kv.mo=jI.of:=⟨rfl,rfl,rfl,rfl,rfl⟩
attribute [go_sem] jI.s4 jI.sR jI.tA jI.CR
def jI.prj:(∀(y0:List Str)(y1:Int)(y2:Int)(y3:Str),(jI.mk y0 y1 y2 y3).parts=y0)/\(∀(y0:List Str)(y1:Int)(y2:Int)(y3:Str),(jI.mk y0 y1 y2 y3).mW=y1)/\(∀(y0:List Str)(y1:Int)(y2:Int)(y3:Str),(jI.mk y0 y1 y2 y3).DD=y2)/\(∀(y0:List Str)(y1:Int)(y2:Int)(y3:Str),(jI.mk y0 y1 y2 y3).target=y3):=⟨fun _ _ _ _=>rfl,fun _ _ _ _=>rfl,fun _ _ _ _=>rfl,fun _ _ _ _=>rfl⟩
attribute [go_sem] jI.prj
def jI.nbs:(∀(n:Nat)(x:jI),Go.Abs.w5 n x.cells=True)/\∀(n:Nat)(xs:List jI),Go.Abs.NC n (mp jI.cells xs)=True:=⟨fun n x=>eq_true (jI.nb n x),fun n xs=>eq_true (rA (jI.nb n) xs)⟩
def jI.aej:(∀(Y:Nat->Nat)(x:jI),sZ Y x.cells=x.cells)/\∀(Y:Nat->Nat)(xs:List jI),Gc Y (mp jI.cells xs)=mp jI.cells xs:=⟨fun Y x=>rR Y _ (jI.nb 0 x),fun Y xs=>wo Y _ (rA (jI.nb 0) xs)⟩
def jI.vw(H:List jT)(x:jI):vwL H x.cells=some (x.cells,[]):=Qg H _ (jI.nb 0 x)
attribute [go_sem] jI.vw
def jI.rpv(l:Nat)(ds:List AV)(x:jI):x.cells.map (rpV l ds)=x.cells:=ajN _ (jI.nb 0 x)
attribute [go_sem] jI.rpv
def jI.reads:
 (∀x:jI,cellsOf (.agg x.cells)=some x.cells)/\
 (∀x:jI,mN true 4 x.cells=some (.agg x.cells))/\
 (∀x:jI,mN false 1 x.cells=some (.kW false 1 (mp nY x.parts)))/\
 (∀x:jI,mN false 1 (x.cells.drop 1)=some (.int .i64 x.mW))/\
 (∀x:jI,mN false 1 (x.cells.drop 2)=some (.int .i64 x.DD))/\
 (∀x:jI,mN false 1 (x.cells.drop 3)=some (.str (sb x.target))):=
 ⟨fun x=>by simp only[cellsOf,jI.qM,jE],
  fun x=>DW (jI.length x),
  fun x=>by rw[jI.kx];rfl,
  fun x=>by rw[jI.kx];rfl,
  fun x=>by rw[jI.kx];rfl,
  fun x=>by rw[jI.kx];rfl⟩
def jI.aof(x:jI)(o:Nat)(xs:List AV):wm x.cells o xs=wm [.kW false 1 (mp nY x.parts),.int .i64 x.mW,.int .i64 x.DD,.str (sb x.target)] o xs:=by rw[jI.kx]
attribute [go_sem] jI.nbs jI.aej jI.reads jI.length jI.qM
attribute [go_sem low] jI.aof
structure jU where
 name:Str
 plus:Int
def jU.cells(x:jU):List AV:=[.str (sb x.name),.int .i64 x.plus]
theorem jU.lO(x:jU):x.cells=[.str (sb x.name),.int .i64 x.plus]:=rfl
theorem jU.kx(x:jU):x.cells=[.str (sb x.name),.int .i64 x.plus]:=rfl
attribute [irreducible] jU.cells
theorem jU.length(x:jU):x.cells.length=2:=by rw[jU.kx];rfl
def jU.qM(x:jU):x.cells.all AV.qM=true:=by rw[jU.kx];rfl
theorem jU.nb(n:Nat)(x:jU):w5 n x.cells:=by
 rw[jU.lO];exact⟨trivial,trivial,trivial⟩
def jU.of(H:List jT):List AV->Option jU
 |[c0,c1]=>(dS c0).bind fun x0=>(dI .i64 c1).bind fun x1=>some (.mk x0 x1)
 |_=>none
def jU.s4{c0 c1:AV}:jU.of H [c0,c1]=(dS c0).bind fun x0=>(dI .i64 c1).bind fun x1=>some (.mk x0 x1):=rfl
def jU.qe(H:List jT)(x:jU):jU.of H [.str (sb x.name),.int .i64 x.plus]=some x:=by
 simp only[jU.s4,Qu,KH,aaF,yD,Jk,beq_self_eq_true,fk,jy,dL]
 try (cases x;rfl)
theorem jU.sR(H:List jT)(x:jU):jU.of H x.cells=some x:=by rw[jU.kx];exact jU.qe H x
def jU.u6{x:jU}(h:jU.of H cs=some x):n7 H n cs x.cells:=by
 unfold jU.of at h;split at h
 ·simp only[fg,fi]at h;obtain⟨x0,h0,x1,h1,rfl⟩:=h;rw[jU.lO];exact(n7.cons (VE h0) (n7.cons (yP h1) n7.nil))
 ·cases h
def jU.kv:VF jU:=⟨jU.cells,jU.of,fun _ _ _ _ h=>jU.u6 h,jU.nb⟩
def jU.row:Row jU:=⟨jU.cells,jU.of [],2,fun _ _ h=>(jU.u6 (n:=0) h).oW,jU.nb⟩
def jU.tA(xs:List jU):r6 (jU.of []) (mp jU.cells xs)=some xs:=Jb (jU.sR []) xs
def jU.KK(xs:List jU)(i:Nat)(r:List AV):r6 (jU.of []) ((mp jU.cells xs).set i r)=bif decide (i<xs.length)then(jU.of [] r).bind fun y=>some (xs.set i y)else some xs:=Go.Abs.KK (jU.sR []) xs i r
attribute [go_sem low] jU.KK
def jU.CR:jU.row.enc=jU.cells/\jU.row.mo=jU.of []/\jU.row.sz=2/\jU.kv.enc=jU.cells/\jU.kv.mo=jU.of:=⟨rfl,rfl,rfl,rfl,rfl⟩
attribute [go_sem] jU.s4 jU.sR jU.tA jU.CR
def jU.prj:(∀(y0:Str)(y1:Int),(jU.mk y0 y1).name=y0)/\(∀(y0:Str)(y1:Int),(jU.mk y0 y1).plus=y1):=⟨fun _ _=>rfl,fun _ _=>rfl⟩
attribute [go_sem] jU.prj
def jU.nbs:(∀(n:Nat)(x:jU),Go.Abs.w5 n x.cells=True)/\∀(n:Nat)(xs:List jU),Go.Abs.NC n (mp jU.cells xs)=True:=⟨fun n x=>eq_true (jU.nb n x),fun n xs=>eq_true (rA (jU.nb n) xs)⟩
def jU.aej:(∀(Y:Nat->Nat)(x:jU),sZ Y x.cells=x.cells)/\∀(Y:Nat->Nat)(xs:List jU),Gc Y (mp jU.cells xs)=mp jU.cells xs:=⟨fun Y x=>rR Y _ (jU.nb 0 x),fun Y xs=>wo Y _ (rA (jU.nb 0) xs)⟩
def jU.reads:
 (∀x:jU,cellsOf (.agg x.cells)=some x.cells)/\
 (∀x:jU,mN true 2 x.cells=some (.agg x.cells))/\
 (∀x:jU,mN false 1 x.cells=some (.str (sb x.name)))/\
 (∀x:jU,mN false 1 (x.cells.drop 1)=some (.int .i64 x.plus)):=
 ⟨fun x=>by simp only[cellsOf,jU.qM,jE],
  fun x=>DW (jU.length x),
  fun x=>by rw[jU.kx];rfl,
  fun x=>by rw[jU.kx];rfl⟩
def jU.aof(x:jU)(o:Nat)(xs:List AV):wm x.cells o xs=wm [.str (sb x.name),.int .i64 x.plus] o xs:=by rw[jU.kx]
attribute [go_sem] jU.nbs jU.aej jU.reads jU.length jU.qM
attribute [go_sem low] jU.aof
structure jN where
 KL:Bool
 tB:List jU
def jN.cells(x:jN):List AV:=[.bool x.KL,.kW false 2 (mp jU.cells x.tB)]
theorem jN.lO(x:jN):x.cells=[.bool x.KL,.kW false 2 (mp jU.cells x.tB)]:=rfl
theorem jN.kx(x:jN):x.cells=[.bool x.KL,.kW false 2 (mp jU.cells x.tB)]:=rfl
attribute [irreducible] jN.cells
theorem jN.length(x:jN):x.cells.length=2:=by rw[jN.kx];rfl
def jN.qM(x:jN):x.cells.all AV.qM=true:=by rw[jN.kx];rfl
theorem jN.nb(n:Nat)(x:jN):w5 n x.cells:=by
 rw[jN.lO];exact⟨trivial,rA (jU.nb n) _,trivial⟩
def jN.of(H:List jT):List AV->Option jN
 |[c0,c1]=>(dB c0).bind fun x0=>(dL jU.row H c1).bind fun x1=>some (.mk x0 x1)
 |_=>none
def jN.s4{c0 c1:AV}:jN.of H [c0,c1]=(dB c0).bind fun x0=>(dL jU.row H c1).bind fun x1=>some (.mk x0 x1):=rfl
def jN.qe(H:List jT)(x:jN):jN.of H [.bool x.KL,.kW false 2 (mp jU.cells x.tB)]=some x:=by
 simp only[jN.s4,Qu,KH,aaF,yD,Jk,beq_self_eq_true,fk,jy,dL,jU.tA,jU.row]
 try (cases x;rfl)
theorem jN.sR(H:List jT)(x:jN):jN.of H x.cells=some x:=by rw[jN.kx];exact jN.qe H x
def jN.u6{x:jN}(h:jN.of H cs=some x):n7 H n cs x.cells:=by
 unfold jN.of at h;split at h
 ·simp only[fg,fi]at h;obtain⟨x0,h0,x1,h1,rfl⟩:=h;rw[jN.lO];exact(n7.cons (amF h0) (n7.cons (Mb h1) n7.nil))
 ·cases h
def jN.kv:VF jN:=⟨jN.cells,jN.of,fun _ _ _ _ h=>jN.u6 h,jN.nb⟩
def jN.row:Row jN:=⟨jN.cells,jN.of [],2,fun _ _ h=>(jN.u6 (n:=0) h).oW,jN.nb⟩
def jN.tA(xs:List jN):r6 (jN.of []) (mp jN.cells xs)=some xs:=Jb (jN.sR []) xs
def jN.KK(xs:List jN)(i:Nat)(r:List AV):r6 (jN.of []) ((mp jN.cells xs).set i r)=bif decide (i<xs.length)then(jN.of [] r).bind fun y=>some (xs.set i y)else some xs:=Go.Abs.KK (jN.sR []) xs i r
attribute [go_sem low] jN.KK
def jN.CR:jN.row.enc=jN.cells/\jN.row.mo=jN.of []/\jN.row.sz=2/\jN.kv.enc=jN.cells/\jN.kv.mo=jN.of:=⟨rfl,rfl,rfl,rfl,rfl⟩
attribute [go_sem] jN.s4 jN.sR jN.tA jN.CR
def jN.prj:(∀(y0:Bool)(y1:List jU),(jN.mk y0 y1).KL=y0)/\(∀(y0:Bool)(y1:List jU),(jN.mk y0 y1).tB=y1):=⟨fun _ _=>rfl,fun _ _=>rfl⟩
attribute [go_sem] jN.prj
def jN.nbs:(∀(n:Nat)(x:jN),Go.Abs.w5 n x.cells=True)/\∀(n:Nat)(xs:List jN),Go.Abs.NC n (mp jN.cells xs)=True:=⟨fun n x=>eq_true (jN.nb n x),fun n xs=>eq_true (rA (jN.nb n) xs)⟩
def jN.aej:(∀(Y:Nat->Nat)(x:jN),sZ Y x.cells=x.cells)/\∀(Y:Nat->Nat)(xs:List jN),Gc Y (mp jN.cells xs)=mp jN.cells xs:=⟨fun Y x=>rR Y _ (jN.nb 0 x),fun Y xs=>wo Y _ (rA (jN.nb 0) xs)⟩
def jN.vw(H:List jT)(x:jN):vwL H x.cells=some (x.cells,[]):=Qg H _ (jN.nb 0 x)
attribute [go_sem] jN.vw
def jN.reads:
 (∀x:jN,cellsOf (.agg x.cells)=some x.cells)/\
 (∀x:jN,mN true 2 x.cells=some (.agg x.cells))/\
 (∀x:jN,mN false 1 x.cells=some (.bool x.KL))/\
 (∀x:jN,mN false 1 (x.cells.drop 1)=some (.kW false 2 (mp jU.cells x.tB))):=
 ⟨fun x=>by simp only[cellsOf,jN.qM,jE],
  fun x=>DW (jN.length x),
  fun x=>by rw[jN.kx];rfl,
  fun x=>by rw[jN.kx];rfl⟩
def jN.aof(x:jN)(o:Nat)(xs:List AV):wm x.cells o xs=wm [.bool x.KL,.kW false 2 (mp jU.cells x.tB)] o xs:=by rw[jN.kx]
attribute [go_sem] jN.nbs jN.aej jN.reads jN.length jN.qM
attribute [go_sem low] jN.aof
inductive Syntax where
 |mk (kind:Int) (text:Str) (num:Int) (lR:List Str) (qN:List jN) (wi:List Syntax) (kM:Int) (to:Int)
def Syntax.kind:Syntax->Int|.mk x _ _ _ _ _ _ _=>x
def Syntax.text:Syntax->Str|.mk _ x _ _ _ _ _ _=>x
def Syntax.num:Syntax->Int|.mk _ _ x _ _ _ _ _=>x
def Syntax.lR:Syntax->List Str|.mk _ _ _ x _ _ _ _=>x
def Syntax.qN:Syntax->List jN|.mk _ _ _ _ x _ _ _=>x
def Syntax.wi:Syntax->List Syntax|.mk _ _ _ _ _ x _ _=>x
def Syntax.kM:Syntax->Int|.mk _ _ _ _ _ _ x _=>x
def Syntax.to:Syntax->Int|.mk _ _ _ _ _ _ _ x=>x
mutual
def Syntax.cells:Syntax->List AV
 |.mk kind text num lR qN wi kM to=>[.int .i64 kind,.str (sb text),.int .i64 num,.kW false 1 (mp nY lR),.kW false 2 (mp jN.cells qN),.kW false 8 (Syntax.KM wi),.int .i64 kM,.int .i64 to]
def Syntax.KM:List Syntax->List (List AV)
 |[]=>[]
 |t::ts=>t.cells::Syntax.KM ts
end
theorem Syntax.Hj:∀ts:List Syntax,Syntax.KM ts=mp Syntax.cells ts
 |[]=>by rw[qD];rfl
 |t::ts=>by rw[Syntax.KM,Syntax.Hj ts,qD,qD];rfl
theorem Syntax.lO(x:Syntax):x.cells=[.int .i64 x.kind,.str (sb x.text),.int .i64 x.num,.kW false 1 (mp nY x.lR),.kW false 2 (mp jN.cells x.qN),.kW false 8 (mp Syntax.cells x.wi),.int .i64 x.kM,.int .i64 x.to]:=by
 cases x;simp only[Syntax.cells,Syntax.Hj];rfl
theorem Syntax.kx(x:Syntax):x.cells=[.int .i64 x.kind,.str (sb x.text),.int .i64 x.num,.kW false 1 (mp nY x.lR),.kW false 2 (mp jN.cells x.qN),.kW false 8 (mp Syntax.cells x.wi),.int .i64 x.kM,.int .i64 x.to]:=by
 cases x;simp only[Syntax.cells,Syntax.Hj,List.cons_append,List.nil_append,List.append_nil];rfl
attribute [irreducible] Syntax.cells
theorem Syntax.length(x:Syntax):x.cells.length=8:=by rw[Syntax.kx];rfl
def Syntax.qM(x:Syntax):x.cells.all AV.qM=true:=by rw[Syntax.kx];rfl
mutual
theorem Syntax.nb(n:Nat):∀x:Syntax,w5 n x.cells
 | .mk kind text num lR qN wi kM to=>by
   rw[Syntax.lO];exact⟨trivial,trivial,trivial,rA (aaN n) _,rA (jN.nb n) _,Syntax.NC n wi,trivial,trivial,trivial⟩
theorem Syntax.NC(n:Nat):∀ts:List Syntax,NC n (mp Syntax.cells ts)
 |[]=>by rw[qD];trivial
 |t::ts=>by have:=Syntax.NC n ts;rw[qD]at this ⊢;exact⟨Syntax.nb n t,this⟩
end
mutual
def Syntax.of0:List AV->Option Syntax
 |[c0,c1,c2,c3,c4,.kW _ z5 r5,c6,c7]=>(dI .i64 c0).bind fun x0=>(dS c1).bind fun x1=>(dI .i64 c2).bind fun x2=>(dL mc [] c3).bind fun x3=>(dL jN.row [] c4).bind fun x4=>(bif Jk z5 8 r5 then Syntax.ofR r5 else none).bind fun x5=>(dI .i64 c6).bind fun x6=>(dI .i64 c7).bind fun x7=>some (.mk x0 x1 x2 x3 x4 x5 x6 x7)
 |_=>none
def Syntax.ofR:List (List AV)->Option (List Syntax)
 |[]=>some []
 |r::rs=>(Syntax.of0 r).bind fun x=>(Syntax.ofR rs).bind fun xs=>some (x::xs)
end
def Syntax.azk:∀rs,Syntax.ofR rs=r6 Syntax.of0 rs
 |[]=>by simp only[Syntax.ofR,r6]
 |r::rs=>by simp only[Syntax.ofR,r6,Syntax.azk rs]
mutual
def Syntax.agA:∀x:Syntax,Syntax.of0 x.cells=some x
 | .mk kind text num lR qN wi kM to=>by
   rw[Syntax.kx];show Syntax.of0 [.int .i64 kind,.str (sb text),.int .i64 num,.kW false 1 (mp nY lR),.kW false 2 (mp jN.cells qN),.kW false 8 (mp Syntax.cells wi),.int .i64 kM,.int .i64 to]=_;simp only[Syntax.of0,Qu,KH,aaF,yD,Jk,beq_self_eq_true,fk,jy,dL,Syntax.amT wi,jN.tA,jN.row,JG,agt]
def Syntax.amT:∀xs:List Syntax,Syntax.ofR (mp Syntax.cells xs)=some xs
 |[]=>by rw[qD];simp only[List.map_nil,Syntax.ofR]
 |x::xs=>by have h:=Syntax.amT xs;rw[qD]at h ⊢;simp only[List.map_cons,Syntax.ofR,Syntax.agA x,h,yD]
end
mutual
def Syntax.QA:∀(x:Syntax)(r:List AV),Syntax.of0 r=some x->vm r x.cells
 | .mk kind text num lR qN wi kM to,r,h=>by
   unfold Syntax.of0 at h;split at h
   ·simp only[fg,fi,Syntax.mk.injEq]at h;obtain⟨x0,h0,x1,h1,x2,h2,x3,h3,x4,h4,x5,h5,x6,h6,x7,h7,e0,e1,e2,e3,e4,e5,e6,e7⟩:=h;rw[e0]at h0;rw[e1]at h1;rw[e2]at h2;rw[e3]at h3;rw[e4]at h4;rw[e5]at h5;rw[e6]at h6;rw[e7]at h7;rw[Syntax.lO];exact(vm.cons ((yP (H:=[]) (n:=0) h0).oW) (vm.cons ((VE (H:=[]) (n:=0) h1).oW) (vm.cons ((yP (H:=[]) (n:=0) h2).oW) (vm.cons ((Mb (H:=[]) (n:=0) h3).oW) (vm.cons ((Mb (H:=[]) (n:=0) h4).oW) (vm.cons (at1 (Syntax.aaO wi _) h5) (vm.cons ((yP (H:=[]) (n:=0) h6).oW) (vm.cons ((yP (H:=[]) (n:=0) h7).oW) vm.nil))))))))
   ·cases h
def Syntax.aaO:∀(xs:List Syntax)(rs:List (List AV)),Syntax.ofR rs=some xs->OY rs (mp Syntax.cells xs)
 |[],rs,h=>by
  cases rs with
  |nil=>rw[qD];exact OY.nil
  |cons r rs=>
   simp only[Syntax.ofR,fg,fi]at h;obtain⟨_,_,_,_,h⟩:=h;cases h
 |x::xs,rs,h=>by
  cases rs with
  |nil=>simp only[Syntax.ofR,fi]at h;cases h
  |cons r rs=>
   simp only[Syntax.ofR,fg,fi,List.cons.injEq]at h;obtain⟨_,hx,_,hys,rfl,rfl⟩:=h;have h2:=Syntax.aaO _ rs hys;rw[qD]at h2 ⊢;exact OY.cons (Syntax.QA _ r hx).av8 h2
end
def Syntax.row:Row Syntax:=⟨Syntax.cells,Syntax.of0,8,fun r x h=>Syntax.QA x r h,Syntax.nb⟩
def Syntax.tA(xs:List Syntax):r6 Syntax.of0 (mp Syntax.cells xs)=some xs:=Jb Syntax.agA xs
def Syntax.of(H:List jT):List AV->Option Syntax
 |[c0,c1,c2,c3,c4,c5,c6,c7]=>(dI .i64 c0).bind fun x0=>(dS c1).bind fun x1=>(dI .i64 c2).bind fun x2=>(dL mc H c3).bind fun x3=>(dL jN.row H c4).bind fun x4=>(dL Syntax.row H c5).bind fun x5=>(dI .i64 c6).bind fun x6=>(dI .i64 c7).bind fun x7=>some (.mk x0 x1 x2 x3 x4 x5 x6 x7)
 |_=>none
def Syntax.s4 {c0 c1 c2 c3 c4 c5 c6:AV}:Syntax.of H [c0,c1,c2,c3,c4,c5,c6,c7]=(dI .i64 c0).bind fun x0=>(dS c1).bind fun x1=>(dI .i64 c2).bind fun x2=>(dL mc H c3).bind fun x3=>(dL jN.row H c4).bind fun x4=>(dL Syntax.row H c5).bind fun x5=>(dI .i64 c6).bind fun x6=>(dI .i64 c7).bind fun x7=>some (.mk x0 x1 x2 x3 x4 x5 x6 x7):=rfl
def Syntax.qe(H:List jT)(x:Syntax):Syntax.of H [.int .i64 x.kind,.str (sb x.text),.int .i64 x.num,.kW false 1 (mp nY x.lR),.kW false 2 (mp jN.cells x.qN),.kW false 8 (mp Syntax.cells x.wi),.int .i64 x.kM,.int .i64 x.to]=some x:=by
 simp only[Syntax.s4,Qu,KH,aaF,yD,Jk,beq_self_eq_true,fk,jy,dL,jN.tA,jN.row,Syntax.tA,Syntax.row,JG,agt]
 try (cases x;rfl)
theorem Syntax.sR(H:List jT)(x:Syntax):Syntax.of H x.cells=some x:=by rw[Syntax.kx];exact Syntax.qe H x
def Syntax.u6{x:Syntax}(h:Syntax.of H cs=some x):n7 H n cs x.cells:=by
 unfold Syntax.of at h;split at h
 ·simp only[fg,fi]at h;obtain⟨x0,h0,x1,h1,x2,h2,x3,h3,x4,h4,x5,h5,x6,h6,x7,h7,rfl⟩:=h;rw[Syntax.lO];exact(n7.cons (yP h0) (n7.cons (VE h1) (n7.cons (yP h2) (n7.cons (Mb h3) (n7.cons (Mb h4) (n7.cons (Mb h5) (n7.cons (yP h6) (n7.cons (yP h7) n7.nil))))))))
 ·cases h
def Syntax.kv:VF Syntax:=⟨Syntax.cells,Syntax.of,fun _ _ _ _ h=>Syntax.u6 h,Syntax.nb⟩
def Syntax.CR:Syntax.row.enc=Syntax.cells/\Syntax.row.mo=Syntax.of0/\Syntax.row.sz=8/\Syntax.kv.enc=Syntax.cells/\Syntax.kv.mo=Syntax.of:=⟨rfl,rfl,rfl,rfl,rfl⟩
def Syntax.eta(x:Syntax):Syntax.mk x.kind x.text x.num x.lR x.qN x.wi x.kM x.to=x:=by cases x;rfl
attribute [go_sem] Syntax.s4 Syntax.sR Syntax.tA Syntax.CR Syntax.eta Syntax.of0 Syntax.agA Syntax.azk
def Syntax.prj:(∀(y0:Int)(y1:Str)(y2:Int)(y3:List Str)(y4:List jN)(y5:List Syntax)(y6:Int)(y7:Int),(Syntax.mk y0 y1 y2 y3 y4 y5 y6 y7).kind=y0)/\(∀(y0:Int)(y1:Str)(y2:Int)(y3:List Str)(y4:List jN)(y5:List Syntax)(y6:Int)(y7:Int),(Syntax.mk y0 y1 y2 y3 y4 y5 y6 y7).text=y1)/\(∀(y0:Int)(y1:Str)(y2:Int)(y3:List Str)(y4:List jN)(y5:List Syntax)(y6:Int)(y7:Int),(Syntax.mk y0 y1 y2 y3 y4 y5 y6 y7).num=y2)/\(∀(y0:Int)(y1:Str)(y2:Int)(y3:List Str)(y4:List jN)(y5:List Syntax)(y6:Int)(y7:Int),(Syntax.mk y0 y1 y2 y3 y4 y5 y6 y7).lR=y3)/\(∀(y0:Int)(y1:Str)(y2:Int)(y3:List Str)(y4:List jN)(y5:List Syntax)(y6:Int)(y7:Int),(Syntax.mk y0 y1 y2 y3 y4 y5 y6 y7).qN=y4)/\(∀(y0:Int)(y1:Str)(y2:Int)(y3:List Str)(y4:List jN)(y5:List Syntax)(y6:Int)(y7:Int),(Syntax.mk y0 y1 y2 y3 y4 y5 y6 y7).wi=y5)/\(∀(y0:Int)(y1:Str)(y2:Int)(y3:List Str)(y4:List jN)(y5:List Syntax)(y6:Int)(y7:Int),(Syntax.mk y0 y1 y2 y3 y4 y5 y6 y7).kM=y6)/\(∀(y0:Int)(y1:Str)(y2:Int)(y3:List Str)(y4:List jN)(y5:List Syntax)(y6:Int)(y7:Int),(Syntax.mk y0 y1 y2 y3 y4 y5 y6 y7).to=y7):=⟨fun _ _ _ _ _ _ _ _=>rfl,fun _ _ _ _ _ _ _ _=>rfl,fun _ _ _ _ _ _ _ _=>rfl,fun _ _ _ _ _ _ _ _=>rfl,fun _ _ _ _ _ _ _ _=>rfl,fun _ _ _ _ _ _ _ _=>rfl,fun _ _ _ _ _ _ _ _=>rfl,fun _ _ _ _ _ _ _ _=>rfl⟩
attribute [go_sem] Syntax.prj
def Syntax.nbs:(∀(n:Nat)(x:Syntax),Go.Abs.w5 n x.cells=True)/\∀(n:Nat)(xs:List Syntax),Go.Abs.NC n (mp Syntax.cells xs)=True:=⟨fun n x=>eq_true (Syntax.nb n x),fun n xs=>eq_true (rA (Syntax.nb n) xs)⟩
def Syntax.aej:(∀(Y:Nat->Nat)(x:Syntax),sZ Y x.cells=x.cells)/\∀(Y:Nat->Nat)(xs:List Syntax),Gc Y (mp Syntax.cells xs)=mp Syntax.cells xs:=⟨fun Y x=>rR Y _ (Syntax.nb 0 x),fun Y xs=>wo Y _ (rA (Syntax.nb 0) xs)⟩
def Syntax.vw(H:List jT)(x:Syntax):vwL H x.cells=some (x.cells,[]):=Qg H _ (Syntax.nb 0 x)
attribute [go_sem] Syntax.vw
theorem Syntax.frz(low:Nat)(H:List jT)(x:Syntax):ak9 low H x.cells=x.cells:=Qq low H _ (Syntax.nb 0 x)
def Syntax.tk:(∀x:Syntax,List.take 8 x.cells=x.cells)/\∀x:Syntax,List.drop 8 x.cells=[]:=⟨fun x=>by rw[Syntax.kx];rfl,fun x=>by rw[Syntax.kx];rfl⟩
attribute [go_sem] Syntax.tk
def Syntax.reads:
 (∀x:Syntax,cellsOf (.agg x.cells)=some x.cells)/\
 (∀x:Syntax,mN true 8 x.cells=some (.agg x.cells))/\
 (∀x:Syntax,mN false 1 x.cells=some (.int .i64 x.kind))/\
 (∀x:Syntax,mN false 1 (x.cells.drop 1)=some (.str (sb x.text)))/\
 (∀x:Syntax,mN false 1 (x.cells.drop 2)=some (.int .i64 x.num))/\
 (∀x:Syntax,mN false 1 (x.cells.drop 3)=some (.kW false 1 (mp nY x.lR)))/\
 (∀x:Syntax,mN false 1 (x.cells.drop 4)=some (.kW false 2 (mp jN.cells x.qN)))/\
 (∀x:Syntax,mN false 1 (x.cells.drop 5)=some (.kW false 8 (mp Syntax.cells x.wi)))/\
 (∀x:Syntax,mN false 1 (x.cells.drop 6)=some (.int .i64 x.kM))/\
 (∀x:Syntax,mN false 1 (x.cells.drop 7)=some (.int .i64 x.to)):=
 ⟨fun x=>by simp only[cellsOf,Syntax.qM,jE],
  fun x=>DW (Syntax.length x),
  fun x=>by rw[Syntax.kx];rfl,
  fun x=>by rw[Syntax.kx];rfl,
  fun x=>by rw[Syntax.kx];rfl,
  fun x=>by rw[Syntax.kx];rfl,
  fun x=>by rw[Syntax.kx];rfl,
  fun x=>by rw[Syntax.kx];rfl,
  fun x=>by rw[Syntax.kx];rfl,
  fun x=>by rw[Syntax.kx];rfl⟩
def Syntax.aof(x:Syntax)(o:Nat)(xs:List AV):wm x.cells o xs=wm [.int .i64 x.kind,.str (sb x.text),.int .i64 x.num,.kW false 1 (mp nY x.lR),.kW false 2 (mp jN.cells x.qN),.kW false 8 (mp Syntax.cells x.wi),.int .i64 x.kM,.int .i64 x.to] o xs:=by rw[Syntax.kx]
def Syntax.cns(x:Syntax)(c:AV):c::x.cells=[c,.int .i64 x.kind,.str (sb x.text),.int .i64 x.num,.kW false 1 (mp nY x.lR),.kW false 2 (mp jN.cells x.qN),.kW false 8 (mp Syntax.cells x.wi),.int .i64 x.kM,.int .i64 x.to]:=by rw[Syntax.kx]
attribute [go_sem] Syntax.cns Syntax.nbs Syntax.aej Syntax.frz Syntax.reads Syntax.length Syntax.qM
attribute [go_sem low] Syntax.aof
structure lS where
 index:Int
 plus:Int
def lS.cells(x:lS):List AV:=[.int .i64 x.index,.int .i64 x.plus]
theorem lS.lO(x:lS):x.cells=[.int .i64 x.index,.int .i64 x.plus]:=rfl
attribute [irreducible] lS.cells
theorem lS.nb(n:Nat)(x:lS):w5 n x.cells:=by
 rw[lS.lO];exact⟨trivial,trivial,trivial⟩
def lS.of(H:List jT):List AV->Option lS
 |[c0,c1]=>(dI .i64 c0).bind fun x0=>(dI .i64 c1).bind fun x1=>some (.mk x0 x1)
 |_=>none
def lS.s4{c0 c1:AV}:lS.of H [c0,c1]=(dI .i64 c0).bind fun x0=>(dI .i64 c1).bind fun x1=>some (.mk x0 x1):=rfl
def lS.u6{x:lS}(h:lS.of H cs=some x):n7 H n cs x.cells:=by
 unfold lS.of at h;split at h
 ·simp only[fg,fi]at h;obtain⟨x0,h0,x1,h1,rfl⟩:=h;rw[lS.lO];exact(n7.cons (yP h0) (n7.cons (yP h1) n7.nil))
 ·cases h
def lS.kv:VF lS:=⟨lS.cells,lS.of,fun _ _ _ _ h=>lS.u6 h,lS.nb⟩
def lS.row:Row lS:=⟨lS.cells,lS.of [],2,fun _ _ h=>(lS.u6 (n:=0) h).oW,lS.nb⟩
def lS.CR:lS.row.enc=lS.cells/\lS.row.mo=lS.of []/\lS.row.sz=2/\lS.kv.enc=lS.cells/\lS.kv.mo=lS.of:=⟨rfl,rfl,rfl,rfl,rfl⟩
attribute [go_sem] lS.s4 lS.CR
def lS.prj:(∀(y0:Int)(y1:Int),(lS.mk y0 y1).index=y0)/\(∀(y0:Int)(y1:Int),(lS.mk y0 y1).plus=y1):=⟨fun _ _=>rfl,fun _ _=>rfl⟩
attribute [go_sem] lS.prj
structure qL where
 const:Int
 vars:List lS
def qL.cells(x:qL):List AV:=[.int .i64 x.const,.kW false 2 (mp lS.cells x.vars)]
theorem qL.lO(x:qL):x.cells=[.int .i64 x.const,.kW false 2 (mp lS.cells x.vars)]:=rfl
attribute [irreducible] qL.cells
theorem qL.nb(n:Nat)(x:qL):w5 n x.cells:=by
 rw[qL.lO];exact⟨trivial,rA (lS.nb n) _,trivial⟩
def qL.of(H:List jT):List AV->Option qL
 |[c0,c1]=>(dI .i64 c0).bind fun x0=>(dL lS.row H c1).bind fun x1=>some (.mk x0 x1)
 |_=>none
def qL.s4{c0 c1:AV}:qL.of H [c0,c1]=(dI .i64 c0).bind fun x0=>(dL lS.row H c1).bind fun x1=>some (.mk x0 x1):=rfl
def qL.u6{x:qL}(h:qL.of H cs=some x):n7 H n cs x.cells:=by
 unfold qL.of at h;split at h
 ·simp only[fg,fi]at h;obtain⟨x0,h0,x1,h1,rfl⟩:=h;rw[qL.lO];exact(n7.cons (yP h0) (n7.cons (Mb h1) n7.nil))
 ·cases h
def qL.kv:VF qL:=⟨qL.cells,qL.of,fun _ _ _ _ h=>qL.u6 h,qL.nb⟩
def qL.row:Row qL:=⟨qL.cells,qL.of [],2,fun _ _ h=>(qL.u6 (n:=0) h).oW,qL.nb⟩
def qL.CR:qL.row.enc=qL.cells/\qL.row.mo=qL.of []/\qL.row.sz=2/\qL.kv.enc=qL.cells/\qL.kv.mo=qL.of:=⟨rfl,rfl,rfl,rfl,rfl⟩
attribute [go_sem] qL.s4 qL.CR
def qL.prj:(∀(y0:Int)(y1:List lS),(qL.mk y0 y1).const=y0)/\(∀(y0:Int)(y1:List lS),(qL.mk y0 y1).vars=y1):=⟨fun _ _=>rfl,fun _ _=>rfl⟩
attribute [go_sem] qL.prj
inductive nQ where
 |mk (kind:Int) (index:Int) (name:Str) (qN:List qL) (wi:List nQ)
def nQ.kind:nQ->Int|.mk x _ _ _ _=>x
def nQ.index:nQ->Int|.mk _ x _ _ _=>x
def nQ.name:nQ->Str|.mk _ _ x _ _=>x
def nQ.qN:nQ->List qL|.mk _ _ _ x _=>x
def nQ.wi:nQ->List nQ|.mk _ _ _ _ x=>x
mutual
def nQ.cells:nQ->List AV
 |.mk kind index name qN wi=>[.int .i64 kind,.int .i64 index,.str (sb name),.kW false 2 (mp qL.cells qN),.kW false 5 (nQ.KM wi)]
def nQ.KM:List nQ->List (List AV)
 |[]=>[]
 |t::ts=>t.cells::nQ.KM ts
end
theorem nQ.Hj:∀ts:List nQ,nQ.KM ts=mp nQ.cells ts
 |[]=>by rw[qD];rfl
 |t::ts=>by rw[nQ.KM,nQ.Hj ts,qD,qD];rfl
theorem nQ.lO(x:nQ):x.cells=[.int .i64 x.kind,.int .i64 x.index,.str (sb x.name),.kW false 2 (mp qL.cells x.qN),.kW false 5 (mp nQ.cells x.wi)]:=by
 cases x;simp only[nQ.cells,nQ.Hj];rfl
attribute [irreducible] nQ.cells
mutual
theorem nQ.nb(n:Nat):∀x:nQ,w5 n x.cells
 | .mk kind index name qN wi=>by
   rw[nQ.lO];exact⟨trivial,trivial,trivial,rA (qL.nb n) _,nQ.NC n wi,trivial⟩
theorem nQ.NC(n:Nat):∀ts:List nQ,NC n (mp nQ.cells ts)
 |[]=>by rw[qD];trivial
 |t::ts=>by have:=nQ.NC n ts;rw[qD]at this ⊢;exact⟨nQ.nb n t,this⟩
end
mutual
def nQ.of0:List AV->Option nQ
 |[c0,c1,c2,c3,.kW _ z4 r4]=>(dI .i64 c0).bind fun x0=>(dI .i64 c1).bind fun x1=>(dS c2).bind fun x2=>(dL qL.row [] c3).bind fun x3=>(bif Jk z4 5 r4 then nQ.ofR r4 else none).bind fun x4=>some (.mk x0 x1 x2 x3 x4)
 |_=>none
def nQ.ofR:List (List AV)->Option (List nQ)
 |[]=>some []
 |r::rs=>(nQ.of0 r).bind fun x=>(nQ.ofR rs).bind fun xs=>some (x::xs)
end
mutual
def nQ.QA:∀(x:nQ)(r:List AV),nQ.of0 r=some x->vm r x.cells
 | .mk kind index name qN wi,r,h=>by
   unfold nQ.of0 at h;split at h
   ·simp only[fg,fi,nQ.mk.injEq]at h;obtain⟨x0,h0,x1,h1,x2,h2,x3,h3,x4,h4,e0,e1,e2,e3,e4⟩:=h;rw[e0]at h0;rw[e1]at h1;rw[e2]at h2;rw[e3]at h3;rw[e4]at h4;rw[nQ.lO];exact(vm.cons ((yP (H:=[]) (n:=0) h0).oW) (vm.cons ((yP (H:=[]) (n:=0) h1).oW) (vm.cons ((VE (H:=[]) (n:=0) h2).oW) (vm.cons ((Mb (H:=[]) (n:=0) h3).oW) (vm.cons (at1 (nQ.aaO wi _) h4) vm.nil)))))
   ·cases h
def nQ.aaO:∀(xs:List nQ)(rs:List (List AV)),nQ.ofR rs=some xs->OY rs (mp nQ.cells xs)
 |[],rs,h=>by
  cases rs with
  |nil=>rw[qD];exact OY.nil
  |cons r rs=>
   simp only[nQ.ofR,fg,fi]at h;obtain⟨_,_,_,_,h⟩:=h;cases h
 |x::xs,rs,h=>by
  cases rs with
  |nil=>simp only[nQ.ofR,fi]at h;cases h
  |cons r rs=>
   simp only[nQ.ofR,fg,fi,List.cons.injEq]at h;obtain⟨_,hx,_,hys,rfl,rfl⟩:=h;have h2:=nQ.aaO _ rs hys;rw[qD]at h2 ⊢;exact OY.cons (nQ.QA _ r hx).av8 h2
end
def nQ.row:Row nQ:=⟨nQ.cells,nQ.of0,5,fun r x h=>nQ.QA x r h,nQ.nb⟩
def nQ.of(H:List jT):List AV->Option nQ
 |[c0,c1,c2,c3,c4]=>(dI .i64 c0).bind fun x0=>(dI .i64 c1).bind fun x1=>(dS c2).bind fun x2=>(dL qL.row H c3).bind fun x3=>(dL nQ.row H c4).bind fun x4=>some (.mk x0 x1 x2 x3 x4)
 |_=>none
def nQ.s4{c0 c1 c2 c3 c4:AV}:nQ.of H [c0,c1,c2,c3,c4]=(dI .i64 c0).bind fun x0=>(dI .i64 c1).bind fun x1=>(dS c2).bind fun x2=>(dL qL.row H c3).bind fun x3=>(dL nQ.row H c4).bind fun x4=>some (.mk x0 x1 x2 x3 x4):=rfl
def nQ.u6{x:nQ}(h:nQ.of H cs=some x):n7 H n cs x.cells:=by
 unfold nQ.of at h;split at h
 ·simp only[fg,fi]at h;obtain⟨x0,h0,x1,h1,x2,h2,x3,h3,x4,h4,rfl⟩:=h;rw[nQ.lO];exact(n7.cons (yP h0) (n7.cons (yP h1) (n7.cons (VE h2) (n7.cons (Mb h3) (n7.cons (Mb h4) n7.nil)))))
 ·cases h
def nQ.kv:VF nQ:=⟨nQ.cells,nQ.of,fun _ _ _ _ h=>nQ.u6 h,nQ.nb⟩
def nQ.CR:nQ.row.enc=nQ.cells/\nQ.row.mo=nQ.of0/\nQ.row.sz=5/\nQ.kv.enc=nQ.cells/\nQ.kv.mo=nQ.of:=⟨rfl,rfl,rfl,rfl,rfl⟩
attribute [go_sem] nQ.s4 nQ.CR nQ.of0
def nQ.prj:(∀(y0:Int)(y1:Int)(y2:Str)(y3:List qL)(y4:List nQ),(nQ.mk y0 y1 y2 y3 y4).kind=y0)/\(∀(y0:Int)(y1:Int)(y2:Str)(y3:List qL)(y4:List nQ),(nQ.mk y0 y1 y2 y3 y4).index=y1)/\(∀(y0:Int)(y1:Int)(y2:Str)(y3:List qL)(y4:List nQ),(nQ.mk y0 y1 y2 y3 y4).name=y2)/\(∀(y0:Int)(y1:Int)(y2:Str)(y3:List qL)(y4:List nQ),(nQ.mk y0 y1 y2 y3 y4).qN=y3)/\(∀(y0:Int)(y1:Int)(y2:Str)(y3:List qL)(y4:List nQ),(nQ.mk y0 y1 y2 y3 y4).wi=y4):=⟨fun _ _ _ _ _=>rfl,fun _ _ _ _ _=>rfl,fun _ _ _ _ _=>rfl,fun _ _ _ _ _=>rfl,fun _ _ _ _ _=>rfl⟩
attribute [go_sem] nQ.prj
mutual
inductive sB where
 |mk (kind:Int) (body:nQ) (var:Int) (KN:List kR)
inductive kR where
 |mk (at2:Str) (QB:Bool) (aog:sB)
end
def sB.kind:sB->Int|.mk x _ _ _=>x
def sB.body:sB->nQ|.mk _ x _ _=>x
def sB.var:sB->Int|.mk _ _ x _=>x
def sB.KN:sB->List kR|.mk _ _ _ x=>x
def kR.at2:kR->Str|.mk x _ _=>x
def kR.QB:kR->Bool|.mk _ x _=>x
def kR.aog:kR->sB|.mk _ _ x=>x
mutual
def sB.cells:sB->List AV
 |.mk kind body var KN=>[.int .i64 kind]++body.cells++[.int .i64 var,.kW false 10 (kR.KM KN)]
def kR.cells:kR->List AV
 |.mk at2 QB aog=>[.str (sb at2),.bool QB]++aog.cells
def kR.KM:List kR->List (List AV)
 |[]=>[]
 |t::ts=>t.cells::kR.KM ts
end
theorem kR.Hj:∀ts:List kR,kR.KM ts=mp kR.cells ts
 |[]=>by rw[qD];rfl
 |t::ts=>by rw[kR.KM,kR.Hj ts,qD,qD];rfl
theorem sB.lO(x:sB):x.cells=[.int .i64 x.kind]++x.body.cells++[.int .i64 x.var,.kW false 10 (mp kR.cells x.KN)]:=by
 cases x;simp only[sB.cells,kR.Hj];rfl
theorem kR.lO(x:kR):x.cells=[.str (sb x.at2),.bool x.QB]++x.aog.cells:=by
 cases x;simp only[kR.cells];rfl
attribute [irreducible] sB.cells
attribute [irreducible] kR.cells
mutual
theorem sB.nb(n:Nat):∀x:sB,w5 n x.cells
 | .mk kind body var KN=>by
   rw[sB.lO];exact(DQ (DQ ⟨trivial,trivial⟩ (nQ.nb n body)) ⟨trivial,kR.NC n KN,trivial⟩)
theorem kR.nb(n:Nat):∀x:kR,w5 n x.cells
 | .mk at2 QB aog=>by
   rw[kR.lO];exact(DQ ⟨trivial,trivial,trivial⟩ (sB.nb n aog))
theorem kR.NC(n:Nat):∀ts:List kR,NC n (mp kR.cells ts)
 |[]=>by rw[qD];trivial
 |t::ts=>by have:=kR.NC n ts;rw[qD]at this ⊢;exact⟨kR.nb n t,this⟩
end
mutual
def sB.of0:List AV->Option sB
 |[c0,c1,c2,c3,c4,c5,c6,.kW _ z7 r7]=>(dI .i64 c0).bind fun x0=>(nQ.of [] [c1,c2,c3,c4,c5]).bind fun x1=>(dI .i64 c6).bind fun x2=>(bif Jk z7 10 r7 then kR.ofR r7 else none).bind fun x3=>some (.mk x0 x1 x2 x3)
 |_=>none
def kR.of0:List AV->Option kR
 |c0::c1::rest=>(dS c0).bind fun x0=>(dB c1).bind fun x1=>(sB.of0 rest).bind fun x2=>some (.mk x0 x1 x2)
 |_=>none
def kR.ofR:List (List AV)->Option (List kR)
 |[]=>some []
 |r::rs=>(kR.of0 r).bind fun x=>(kR.ofR rs).bind fun xs=>some (x::xs)
end
mutual
def sB.QA:∀(x:sB)(r:List AV),sB.of0 r=some x->vm r x.cells
 | .mk kind body var KN,r,h=>by
   unfold sB.of0 at h;split at h
   ·simp only[fg,fi,sB.mk.injEq]at h;obtain⟨x0,h0,x1,h1,x2,h2,x3,h3,e0,e1,e2,e3⟩:=h;rw[e0]at h0;rw[e1]at h1;rw[e2]at h2;rw[e3]at h3;rw[sB.lO];exact(vm.append (vm.append (vm.cons ((yP (H:=[]) (n:=0) h0).oW) vm.nil) ((nQ.u6 (n:=0) h1).oW)) (vm.cons ((yP (H:=[]) (n:=0) h2).oW) (vm.cons (at1 (kR.aaO KN _) h3) vm.nil)))
   ·cases h
def kR.QA:∀(x:kR)(r:List AV),kR.of0 r=some x->vm r x.cells
 | .mk at2 QB aog,r,h=>by
   unfold kR.of0 at h;split at h
   ·simp only[fg,fi,kR.mk.injEq]at h;obtain⟨x0,h0,x1,h1,x2,h2,e0,e1,e2⟩:=h;rw[e0]at h0;rw[e1]at h1;rw[e2]at h2;rw[kR.lO];exact(vm.append (vm.cons ((VE (H:=[]) (n:=0) h0).oW) (vm.cons ((amF (H:=[]) (n:=0) h1).oW) vm.nil)) (sB.QA aog _ h2))
   ·cases h
def kR.aaO:∀(xs:List kR)(rs:List (List AV)),kR.ofR rs=some xs->OY rs (mp kR.cells xs)
 |[],rs,h=>by
  cases rs with
  |nil=>rw[qD];exact OY.nil
  |cons r rs=>
   simp only[kR.ofR,fg,fi]at h;obtain⟨_,_,_,_,h⟩:=h;cases h
 |x::xs,rs,h=>by
  cases rs with
  |nil=>simp only[kR.ofR,fi]at h;cases h
  |cons r rs=>
   simp only[kR.ofR,fg,fi,List.cons.injEq]at h;obtain⟨_,hx,_,hys,rfl,rfl⟩:=h;have h2:=kR.aaO _ rs hys;rw[qD]at h2 ⊢;exact OY.cons (kR.QA _ r hx).av8 h2
end
def sB.row:Row sB:=⟨sB.cells,sB.of0,8,fun r x h=>sB.QA x r h,sB.nb⟩
def kR.row:Row kR:=⟨kR.cells,kR.of0,10,fun r x h=>kR.QA x r h,kR.nb⟩
def sB.of(H:List jT):List AV->Option sB
 |[c0,c1,c2,c3,c4,c5,c6,c7]=>(dI .i64 c0).bind fun x0=>(nQ.of H [c1,c2,c3,c4,c5]).bind fun x1=>(dI .i64 c6).bind fun x2=>(dL kR.row H c7).bind fun x3=>some (.mk x0 x1 x2 x3)
 |_=>none
def sB.s4 {c0 c1 c2 c3 c4 c5 c6:AV}:sB.of H [c0,c1,c2,c3,c4,c5,c6,c7]=(dI .i64 c0).bind fun x0=>(nQ.of H [c1,c2,c3,c4,c5]).bind fun x1=>(dI .i64 c6).bind fun x2=>(dL kR.row H c7).bind fun x3=>some (.mk x0 x1 x2 x3):=rfl
def sB.u6{x:sB}(h:sB.of H cs=some x):n7 H n cs x.cells:=by
 unfold sB.of at h;split at h
 ·simp only[fg,fi]at h;obtain⟨x0,h0,x1,h1,x2,h2,x3,h3,rfl⟩:=h;rw[sB.lO];exact(n7.append (n7.append (n7.cons (yP h0) n7.nil) (nQ.u6 h1)) (n7.cons (yP h2) (n7.cons (Mb h3) n7.nil)))
 ·cases h
def sB.kv:VF sB:=⟨sB.cells,sB.of,fun _ _ _ _ h=>sB.u6 h,sB.nb⟩
def sB.CR:sB.row.enc=sB.cells/\sB.row.mo=sB.of0/\sB.row.sz=8/\sB.kv.enc=sB.cells/\sB.kv.mo=sB.of:=⟨rfl,rfl,rfl,rfl,rfl⟩
attribute [go_sem] sB.s4 sB.CR sB.of0
def sB.prj:(∀(y0:Int)(y1:nQ)(y2:Int)(y3:List kR),(sB.mk y0 y1 y2 y3).kind=y0)/\(∀(y0:Int)(y1:nQ)(y2:Int)(y3:List kR),(sB.mk y0 y1 y2 y3).body=y1)/\(∀(y0:Int)(y1:nQ)(y2:Int)(y3:List kR),(sB.mk y0 y1 y2 y3).var=y2)/\(∀(y0:Int)(y1:nQ)(y2:Int)(y3:List kR),(sB.mk y0 y1 y2 y3).KN=y3):=⟨fun _ _ _ _=>rfl,fun _ _ _ _=>rfl,fun _ _ _ _=>rfl,fun _ _ _ _=>rfl⟩
attribute [go_sem] sB.prj
def kR.of(H:List jT):List AV->Option kR
 |[c0,c1,c2,c3,c4,c5,c6,c7,c8,c9]=>(dS c0).bind fun x0=>(dB c1).bind fun x1=>(sB.of H [c2,c3,c4,c5,c6,c7,c8,c9]).bind fun x2=>some (.mk x0 x1 x2)
 |_=>none
def kR.s4 {c0 c1 c2 c3 c4 c5 c6 c8 c9:AV}:kR.of H [c0,c1,c2,c3,c4,c5,c6,c7,c8,c9]=(dS c0).bind fun x0=>(dB c1).bind fun x1=>(sB.of H [c2,c3,c4,c5,c6,c7,c8,c9]).bind fun x2=>some (.mk x0 x1 x2):=rfl
def kR.u6{x:kR}(h:kR.of H cs=some x):n7 H n cs x.cells:=by
 unfold kR.of at h;split at h
 ·simp only[fg,fi]at h;obtain⟨x0,h0,x1,h1,x2,h2,rfl⟩:=h;rw[kR.lO];exact(n7.append (n7.cons (VE h0) (n7.cons (amF h1) n7.nil)) (sB.u6 h2))
 ·cases h
def kR.kv:VF kR:=⟨kR.cells,kR.of,fun _ _ _ _ h=>kR.u6 h,kR.nb⟩
def kR.CR:kR.row.enc=kR.cells/\kR.row.mo=kR.of0/\kR.row.sz=10/\kR.kv.enc=kR.cells/\kR.kv.mo=kR.of:=⟨rfl,rfl,rfl,rfl,rfl⟩
attribute [go_sem] kR.s4 kR.CR kR.of0
def kR.prj:(∀(y0:Str)(y1:Bool)(y2:sB),(kR.mk y0 y1 y2).at2=y0)/\(∀(y0:Str)(y1:Bool)(y2:sB),(kR.mk y0 y1 y2).QB=y1)/\(∀(y0:Str)(y1:Bool)(y2:sB),(kR.mk y0 y1 y2).aog=y2):=⟨fun _ _ _=>rfl,fun _ _ _=>rfl,fun _ _ _=>rfl⟩
attribute [go_sem] kR.prj
structure jW where
 e:Int
 rB:Int
def jW.cells(x:jW):List AV:=[.int .i64 x.e,.int .i64 x.rB]
theorem jW.lO(x:jW):x.cells=[.int .i64 x.e,.int .i64 x.rB]:=rfl
theorem jW.kx(x:jW):x.cells=[.int .i64 x.e,.int .i64 x.rB]:=rfl
attribute [irreducible] jW.cells
theorem jW.length(x:jW):x.cells.length=2:=by rw[jW.kx];rfl
def jW.qM(x:jW):x.cells.all AV.qM=true:=by rw[jW.kx];rfl
theorem jW.nb(n:Nat)(x:jW):w5 n x.cells:=by
 rw[jW.lO];exact⟨trivial,trivial,trivial⟩
def jW.of(H:List jT):List AV->Option jW
 |[c0,c1]=>(dI .i64 c0).bind fun x0=>(dI .i64 c1).bind fun x1=>some (.mk x0 x1)
 |_=>none
def jW.s4{c0 c1:AV}:jW.of H [c0,c1]=(dI .i64 c0).bind fun x0=>(dI .i64 c1).bind fun x1=>some (.mk x0 x1):=rfl
def jW.qe(H:List jT)(x:jW):jW.of H [.int .i64 x.e,.int .i64 x.rB]=some x:=by
 simp only[jW.s4,Qu,KH,aaF,yD,Jk,beq_self_eq_true,fk,jy,dL]
 try (cases x;rfl)
theorem jW.sR(H:List jT)(x:jW):jW.of H x.cells=some x:=by rw[jW.kx];exact jW.qe H x
def jW.u6{x:jW}(h:jW.of H cs=some x):n7 H n cs x.cells:=by
 unfold jW.of at h;split at h
 ·simp only[fg,fi]at h;obtain⟨x0,h0,x1,h1,rfl⟩:=h;rw[jW.lO];exact(n7.cons (yP h0) (n7.cons (yP h1) n7.nil))
 ·cases h
def jW.kv:VF jW:=⟨jW.cells,jW.of,fun _ _ _ _ h=>jW.u6 h,jW.nb⟩
def jW.row:Row jW:=⟨jW.cells,jW.of [],2,fun _ _ h=>(jW.u6 (n:=0) h).oW,jW.nb⟩
def jW.CR:jW.row.enc=jW.cells/\jW.row.mo=jW.of []/\jW.row.sz=2/\jW.kv.enc=jW.cells/\jW.kv.mo=jW.of:=⟨rfl,rfl,rfl,rfl,rfl⟩
attribute [go_sem] jW.s4 jW.sR jW.CR
def jW.prj:(∀(y0:Int)(y1:Int),(jW.mk y0 y1).e=y0)/\(∀(y0:Int)(y1:Int),(jW.mk y0 y1).rB=y1):=⟨fun _ _=>rfl,fun _ _=>rfl⟩
attribute [go_sem] jW.prj
def jW.aej:(∀(Y:Nat->Nat)(x:jW),sZ Y x.cells=x.cells)/\∀(Y:Nat->Nat)(xs:List jW),Gc Y (mp jW.cells xs)=mp jW.cells xs:=⟨fun Y x=>rR Y _ (jW.nb 0 x),fun Y xs=>wo Y _ (rA (jW.nb 0) xs)⟩
def jW.vw(H:List jT)(x:jW):vwL H x.cells=some (x.cells,[]):=Qg H _ (jW.nb 0 x)
attribute [go_sem] jW.vw
def jW.reads:
 (∀x:jW,cellsOf (.agg x.cells)=some x.cells)/\
 (∀x:jW,mN true 2 x.cells=some (.agg x.cells))/\
 (∀x:jW,mN false 1 x.cells=some (.int .i64 x.e))/\
 (∀x:jW,mN false 1 (x.cells.drop 1)=some (.int .i64 x.rB)):=
 ⟨fun x=>by simp only[cellsOf,jW.qM,jE],
  fun x=>DW (jW.length x),
  fun x=>by rw[jW.kx];rfl,
  fun x=>by rw[jW.kx];rfl⟩
attribute [go_sem] jW.aej jW.reads jW.length jW.qM
structure kF where
 kind:Int
 text:Str
 rB:Int
def kF.cells(x:kF):List AV:=[.int .i64 x.kind,.str (sb x.text),.int .i64 x.rB]
theorem kF.lO(x:kF):x.cells=[.int .i64 x.kind,.str (sb x.text),.int .i64 x.rB]:=rfl
theorem kF.kx(x:kF):x.cells=[.int .i64 x.kind,.str (sb x.text),.int .i64 x.rB]:=rfl
attribute [irreducible] kF.cells
theorem kF.length(x:kF):x.cells.length=3:=by rw[kF.kx];rfl
def kF.qM(x:kF):x.cells.all AV.qM=true:=by rw[kF.kx];rfl
theorem kF.nb(n:Nat)(x:kF):w5 n x.cells:=by
 rw[kF.lO];exact⟨trivial,trivial,trivial,trivial⟩
def kF.of(H:List jT):List AV->Option kF
 |[c0,c1,c2]=>(dI .i64 c0).bind fun x0=>(dS c1).bind fun x1=>(dI .i64 c2).bind fun x2=>some (.mk x0 x1 x2)
 |_=>none
def kF.s4{c0 c1 c2:AV}:kF.of H [c0,c1,c2]=(dI .i64 c0).bind fun x0=>(dS c1).bind fun x1=>(dI .i64 c2).bind fun x2=>some (.mk x0 x1 x2):=rfl
def kF.qe(H:List jT)(x:kF):kF.of H [.int .i64 x.kind,.str (sb x.text),.int .i64 x.rB]=some x:=by
 simp only[kF.s4,Qu,KH,aaF,yD,Jk,beq_self_eq_true,fk,jy,dL]
 try (cases x;rfl)
theorem kF.sR(H:List jT)(x:kF):kF.of H x.cells=some x:=by rw[kF.kx];exact kF.qe H x
def kF.u6{x:kF}(h:kF.of H cs=some x):n7 H n cs x.cells:=by
 unfold kF.of at h;split at h
 ·simp only[fg,fi]at h;obtain⟨x0,h0,x1,h1,x2,h2,rfl⟩:=h;rw[kF.lO];exact(n7.cons (yP h0) (n7.cons (VE h1) (n7.cons (yP h2) n7.nil)))
 ·cases h
def kF.kv:VF kF:=⟨kF.cells,kF.of,fun _ _ _ _ h=>kF.u6 h,kF.nb⟩
def kF.row:Row kF:=⟨kF.cells,kF.of [],3,fun _ _ h=>(kF.u6 (n:=0) h).oW,kF.nb⟩
def kF.tA(xs:List kF):r6 (kF.of []) (mp kF.cells xs)=some xs:=Jb (kF.sR []) xs
def kF.CR:kF.row.enc=kF.cells/\kF.row.mo=kF.of []/\kF.row.sz=3/\kF.kv.enc=kF.cells/\kF.kv.mo=kF.of:=⟨rfl,rfl,rfl,rfl,rfl⟩
attribute [go_sem] kF.s4 kF.sR kF.tA kF.CR
def kF.prj:(∀(y0:Int)(y1:Str)(y2:Int),(kF.mk y0 y1 y2).kind=y0)/\(∀(y0:Int)(y1:Str)(y2:Int),(kF.mk y0 y1 y2).text=y1)/\(∀(y0:Int)(y1:Str)(y2:Int),(kF.mk y0 y1 y2).rB=y2):=⟨fun _ _ _=>rfl,fun _ _ _=>rfl,fun _ _ _=>rfl⟩
attribute [go_sem] kF.prj
def kF.nbs:(∀(n:Nat)(x:kF),Go.Abs.w5 n x.cells=True)/\∀(n:Nat)(xs:List kF),Go.Abs.NC n (mp kF.cells xs)=True:=⟨fun n x=>eq_true (kF.nb n x),fun n xs=>eq_true (rA (kF.nb n) xs)⟩
def kF.vw(H:List jT)(x:kF):vwL H x.cells=some (x.cells,[]):=Qg H _ (kF.nb 0 x)
attribute [go_sem] kF.vw
theorem kF.frz(low:Nat)(H:List jT)(x:kF):ak9 low H x.cells=x.cells:=Qq low H _ (kF.nb 0 x)
def kF.reads:
 (∀x:kF,cellsOf (.agg x.cells)=some x.cells)/\
 (∀x:kF,mN true 3 x.cells=some (.agg x.cells))/\
 (∀x:kF,mN false 1 x.cells=some (.int .i64 x.kind))/\
 (∀x:kF,mN false 1 (x.cells.drop 1)=some (.str (sb x.text)))/\
 (∀x:kF,mN false 1 (x.cells.drop 2)=some (.int .i64 x.rB)):=
 ⟨fun x=>by simp only[cellsOf,kF.qM,jE],
  fun x=>DW (kF.length x),
  fun x=>by rw[kF.kx];rfl,
  fun x=>by rw[kF.kx];rfl,
  fun x=>by rw[kF.kx];rfl⟩
attribute [go_sem] kF.nbs kF.frz kF.reads kF.length kF.qM
structure jX where
 Fl:List kF
 next:Int
 base:Int
def jX.cells(x:jX):List AV:=[.kW false 3 (mp kF.cells x.Fl),.int .i64 x.next,.int .i64 x.base]
theorem jX.lO(x:jX):x.cells=[.kW false 3 (mp kF.cells x.Fl),.int .i64 x.next,.int .i64 x.base]:=rfl
theorem jX.kx(x:jX):x.cells=[.kW false 3 (mp kF.cells x.Fl),.int .i64 x.next,.int .i64 x.base]:=rfl
attribute [irreducible] jX.cells
theorem jX.length(x:jX):x.cells.length=3:=by rw[jX.kx];rfl
def jX.qM(x:jX):x.cells.all AV.qM=true:=by rw[jX.kx];rfl
theorem jX.nb(n:Nat)(x:jX):w5 n x.cells:=by
 rw[jX.lO];exact⟨rA (kF.nb n) _,trivial,trivial,trivial⟩
def jX.of(H:List jT):List AV->Option jX
 |[c0,c1,c2]=>(dL kF.row H c0).bind fun x0=>(dI .i64 c1).bind fun x1=>(dI .i64 c2).bind fun x2=>some (.mk x0 x1 x2)
 |_=>none
def jX.s4{c0 c1 c2:AV}:jX.of H [c0,c1,c2]=(dL kF.row H c0).bind fun x0=>(dI .i64 c1).bind fun x1=>(dI .i64 c2).bind fun x2=>some (.mk x0 x1 x2):=rfl
def jX.qe(H:List jT)(x:jX):jX.of H [.kW false 3 (mp kF.cells x.Fl),.int .i64 x.next,.int .i64 x.base]=some x:=by
 simp only[jX.s4,Qu,KH,aaF,yD,Jk,beq_self_eq_true,fk,jy,dL,kF.tA,kF.row]
 try (cases x;rfl)
def jX.u6{x:jX}(h:jX.of H cs=some x):n7 H n cs x.cells:=by
 unfold jX.of at h;split at h
 ·simp only[fg,fi]at h;obtain⟨x0,h0,x1,h1,x2,h2,rfl⟩:=h;rw[jX.lO];exact(n7.cons (Mb h0) (n7.cons (yP h1) (n7.cons (yP h2) n7.nil)))
 ·cases h
def jX.kv:VF jX:=⟨jX.cells,jX.of,fun _ _ _ _ h=>jX.u6 h,jX.nb⟩
def jX.row:Row jX:=⟨jX.cells,jX.of [],3,fun _ _ h=>(jX.u6 (n:=0) h).oW,jX.nb⟩
def jX.CR:jX.row.enc=jX.cells/\jX.row.mo=jX.of []/\jX.row.sz=3/\jX.kv.enc=jX.cells/\jX.kv.mo=jX.of:=⟨rfl,rfl,rfl,rfl,rfl⟩
def jX.eta(x:jX):jX.mk x.Fl x.next x.base=x:=by cases x;rfl
attribute [go_sem] jX.s4 jX.CR jX.eta
def jX.prj:(∀(y0:List kF)(y1:Int)(y2:Int),(jX.mk y0 y1 y2).Fl=y0)/\(∀(y0:List kF)(y1:Int)(y2:Int),(jX.mk y0 y1 y2).next=y1)/\(∀(y0:List kF)(y1:Int)(y2:Int),(jX.mk y0 y1 y2).base=y2):=⟨fun _ _ _=>rfl,fun _ _ _=>rfl,fun _ _ _=>rfl⟩
attribute [go_sem] jX.prj
def jX.aej:(∀(Y:Nat->Nat)(x:jX),sZ Y x.cells=x.cells)/\∀(Y:Nat->Nat)(xs:List jX),Gc Y (mp jX.cells xs)=mp jX.cells xs:=⟨fun Y x=>rR Y _ (jX.nb 0 x),fun Y xs=>wo Y _ (rA (jX.nb 0) xs)⟩
def jX.reads:
 (∀x:jX,cellsOf (.agg x.cells)=some x.cells)/\
 (∀x:jX,mN true 3 x.cells=some (.agg x.cells))/\
 (∀x:jX,mN false 1 x.cells=some (.kW false 3 (mp kF.cells x.Fl)))/\
 (∀x:jX,mN false 1 (x.cells.drop 1)=some (.int .i64 x.next))/\
 (∀x:jX,mN false 1 (x.cells.drop 2)=some (.int .i64 x.base)):=
 ⟨fun x=>by simp only[cellsOf,jX.qM,jE],
  fun x=>DW (jX.length x),
  fun x=>by rw[jX.kx];rfl,
  fun x=>by rw[jX.kx];rfl,
  fun x=>by rw[jX.kx];rfl⟩
theorem jX.app(x:jX)(l:List AV):x.cells++l=(.kW false 3 (mp kF.cells x.Fl):AV)::(.int .i64 x.next:AV)::(.int .i64 x.base:AV)::l:=by rw[jX.kx];rfl
attribute [go_sem] jX.app jX.aej jX.reads jX.length jX.qM
structure jH where
 uN:jX
 IA:List jI
 AB:List Str
 depth:Int
def jH.cells(x:jH):List AV:=x.uN.cells++[.kW false 4 (mp jI.cells x.IA),.kW false 1 (mp nY x.AB),.int .i64 x.depth]
theorem jH.lO(x:jH):x.cells=x.uN.cells++[.kW false 4 (mp jI.cells x.IA),.kW false 1 (mp nY x.AB),.int .i64 x.depth]:=rfl
theorem jH.kx(x:jH):x.cells=[.kW false 3 (mp kF.cells x.uN.Fl),.int .i64 x.uN.next,.int .i64 x.uN.base,.kW false 4 (mp jI.cells x.IA),.kW false 1 (mp nY x.AB),.int .i64 x.depth]:=by
 simp only[jH.cells,jX.kx,List.cons_append,List.nil_append,List.append_nil]
attribute [irreducible] jH.cells
theorem jH.length(x:jH):x.cells.length=6:=by rw[jH.kx];rfl
def jH.qM(x:jH):x.cells.all AV.qM=true:=by rw[jH.kx];rfl
theorem jH.nb(n:Nat)(x:jH):w5 n x.cells:=by
 rw[jH.lO];exact(DQ (jX.nb n x.uN) ⟨rA (jI.nb n) _,rA (aaN n) _,trivial,trivial⟩)
def jH.of(H:List jT):List AV->Option jH
 |[c0,c1,c2,c3,c4,c5]=>(jX.of H [c0,c1,c2]).bind fun x0=>(dL jI.row H c3).bind fun x1=>(dL mc H c4).bind fun x2=>(dI .i64 c5).bind fun x3=>some (.mk x0 x1 x2 x3)
 |_=>none
def jH.s4{c0 c1 c2 c3 c4 c5:AV}:jH.of H [c0,c1,c2,c3,c4,c5]=(jX.of H [c0,c1,c2]).bind fun x0=>(dL jI.row H c3).bind fun x1=>(dL mc H c4).bind fun x2=>(dI .i64 c5).bind fun x3=>some (.mk x0 x1 x2 x3):=rfl
def jH.qe(H:List jT)(x:jH):jH.of H [.kW false 3 (mp kF.cells x.uN.Fl),.int .i64 x.uN.next,.int .i64 x.uN.base,.kW false 4 (mp jI.cells x.IA),.kW false 1 (mp nY x.AB),.int .i64 x.depth]=some x:=by
 simp only[jH.s4,Qu,KH,aaF,yD,Jk,beq_self_eq_true,fk,jy,dL,jI.tA,jI.row,JG,agt,jX.qe]
 try (cases x;rfl)
theorem jH.sR(H:List jT)(x:jH):jH.of H x.cells=some x:=by rw[jH.kx];exact jH.qe H x
def jH.u6{x:jH}(h:jH.of H cs=some x):n7 H n cs x.cells:=by
 unfold jH.of at h;split at h
 ·simp only[fg,fi]at h;obtain⟨x0,h0,x1,h1,x2,h2,x3,h3,rfl⟩:=h;rw[jH.lO];exact(n7.append (jX.u6 h0) (n7.cons (Mb h1) (n7.cons (Mb h2) (n7.cons (yP h3) n7.nil))))
 ·cases h
def jH.kv:VF jH:=⟨jH.cells,jH.of,fun _ _ _ _ h=>jH.u6 h,jH.nb⟩
def jH.row:Row jH:=⟨jH.cells,jH.of [],6,fun _ _ h=>(jH.u6 (n:=0) h).oW,jH.nb⟩
def jH.CR:jH.row.enc=jH.cells/\jH.row.mo=jH.of []/\jH.row.sz=6/\jH.kv.enc=jH.cells/\jH.kv.mo=jH.of:=⟨rfl,rfl,rfl,rfl,rfl⟩
attribute [go_sem] jH.s4 jH.sR jH.CR
def jH.prj:(∀(y0:jX)(y1:List jI)(y2:List Str)(y3:Int),(jH.mk y0 y1 y2 y3).uN=y0)/\(∀(y0:jX)(y1:List jI)(y2:List Str)(y3:Int),(jH.mk y0 y1 y2 y3).IA=y1)/\(∀(y0:jX)(y1:List jI)(y2:List Str)(y3:Int),(jH.mk y0 y1 y2 y3).AB=y2)/\(∀(y0:jX)(y1:List jI)(y2:List Str)(y3:Int),(jH.mk y0 y1 y2 y3).depth=y3):=⟨fun _ _ _ _=>rfl,fun _ _ _ _=>rfl,fun _ _ _ _=>rfl,fun _ _ _ _=>rfl⟩
attribute [go_sem] jH.prj
def jH.nbs:(∀(n:Nat)(x:jH),Go.Abs.w5 n x.cells=True)/\∀(n:Nat)(xs:List jH),Go.Abs.NC n (mp jH.cells xs)=True:=⟨fun n x=>eq_true (jH.nb n x),fun n xs=>eq_true (rA (jH.nb n) xs)⟩
def jH.aej:(∀(Y:Nat->Nat)(x:jH),sZ Y x.cells=x.cells)/\∀(Y:Nat->Nat)(xs:List jH),Gc Y (mp jH.cells xs)=mp jH.cells xs:=⟨fun Y x=>rR Y _ (jH.nb 0 x),fun Y xs=>wo Y _ (rA (jH.nb 0) xs)⟩
def jH.tk:(∀x:jH,List.take 6 x.cells=x.cells)/\∀x:jH,List.drop 6 x.cells=[]:=⟨fun x=>by rw[jH.kx];rfl,fun x=>by rw[jH.kx];rfl⟩
attribute [go_sem] jH.tk
def jH.reads:
 (∀x:jH,cellsOf (.agg x.cells)=some x.cells)/\
 (∀x:jH,mN true 6 x.cells=some (.agg x.cells))/\
 (∀x:jH,mN false 1 x.cells=some (.kW false 3 (mp kF.cells x.uN.Fl)))/\
 (∀x:jH,mN false 1 (x.cells.drop 1)=some (.int .i64 x.uN.next))/\
 (∀x:jH,mN false 1 (x.cells.drop 2)=some (.int .i64 x.uN.base))/\
 (∀x:jH,mN false 1 (x.cells.drop 3)=some (.kW false 4 (mp jI.cells x.IA)))/\
 (∀x:jH,mN false 1 (x.cells.drop 4)=some (.kW false 1 (mp nY x.AB)))/\
 (∀x:jH,mN false 1 (x.cells.drop 5)=some (.int .i64 x.depth))/\
 (∀x:jH,mN true 3 x.cells=some (.agg x.uN.cells)):=
 ⟨fun x=>by simp only[cellsOf,jH.qM,jE],
  fun x=>DW (jH.length x),
  fun x=>by rw[jH.kx];rfl,
  fun x=>by rw[jH.kx];rfl,
  fun x=>by rw[jH.kx];rfl,
  fun x=>by rw[jH.kx];rfl,
  fun x=>by rw[jH.kx];rfl,
  fun x=>by rw[jH.kx];rfl,
  fun x=>by rw[jH.kx];simp only[jX.kx,List.drop_succ_cons,List.drop_zero];rfl⟩
def jH.aof(x:jH)(o:Nat)(xs:List AV):wm x.cells o xs=wm [.kW false 3 (mp kF.cells x.uN.Fl),.int .i64 x.uN.next,.int .i64 x.uN.base,.kW false 4 (mp jI.cells x.IA),.kW false 1 (mp nY x.AB),.int .i64 x.depth] o xs:=by rw[jH.kx]
attribute [go_sem] jH.nbs jH.aej jH.reads jH.length jH.qM
attribute [go_sem low] jH.aof
structure jS where
 name:Str
 t:Syntax
def jS.cells(x:jS):List AV:=[.str (sb x.name)]++x.t.cells
theorem jS.lO(x:jS):x.cells=[.str (sb x.name)]++x.t.cells:=rfl
theorem jS.kx(x:jS):x.cells=[.str (sb x.name),.int .i64 x.t.kind,.str (sb x.t.text),.int .i64 x.t.num,.kW false 1 (mp nY x.t.lR),.kW false 2 (mp jN.cells x.t.qN),.kW false 8 (mp Syntax.cells x.t.wi),.int .i64 x.t.kM,.int .i64 x.t.to]:=by
 simp only[jS.cells,Syntax.kx,List.cons_append,List.nil_append,List.append_nil]
attribute [irreducible] jS.cells
theorem jS.length(x:jS):x.cells.length=9:=by rw[jS.kx];rfl
def jS.qM(x:jS):x.cells.all AV.qM=true:=by rw[jS.kx];rfl
theorem jS.nb(n:Nat)(x:jS):w5 n x.cells:=by
 rw[jS.lO];exact(DQ ⟨trivial,trivial⟩ (Syntax.nb n x.t))
def jS.of(H:List jT):List AV->Option jS
 |[c0,c1,c2,c3,c4,c5,c6,c7,c8]=>(dS c0).bind fun x0=>(Syntax.of H [c1,c2,c3,c4,c5,c6,c7,c8]).bind fun x1=>some (.mk x0 x1)
 |_=>none
def jS.s4 {c0 c1 c2 c3 c4 c5 c6 c8:AV}:jS.of H [c0,c1,c2,c3,c4,c5,c6,c7,c8]=(dS c0).bind fun x0=>(Syntax.of H [c1,c2,c3,c4,c5,c6,c7,c8]).bind fun x1=>some (.mk x0 x1):=rfl
def jS.qe(H:List jT)(x:jS):jS.of H [.str (sb x.name),.int .i64 x.t.kind,.str (sb x.t.text),.int .i64 x.t.num,.kW false 1 (mp nY x.t.lR),.kW false 2 (mp jN.cells x.t.qN),.kW false 8 (mp Syntax.cells x.t.wi),.int .i64 x.t.kM,.int .i64 x.t.to]=some x:=by
 simp only[jS.s4,Qu,KH,aaF,yD,Jk,beq_self_eq_true,fk,jy,dL,Syntax.qe]
 try (cases x;rfl)
theorem jS.sR(H:List jT)(x:jS):jS.of H x.cells=some x:=by rw[jS.kx];exact jS.qe H x
def jS.u6{x:jS}(h:jS.of H cs=some x):n7 H n cs x.cells:=by
 unfold jS.of at h;split at h
 ·simp only[fg,fi]at h;obtain⟨x0,h0,x1,h1,rfl⟩:=h;rw[jS.lO];exact(n7.append (n7.cons (VE h0) n7.nil) (Syntax.u6 h1))
 ·cases h
def jS.kv:VF jS:=⟨jS.cells,jS.of,fun _ _ _ _ h=>jS.u6 h,jS.nb⟩
def jS.row:Row jS:=⟨jS.cells,jS.of [],9,fun _ _ h=>(jS.u6 (n:=0) h).oW,jS.nb⟩
def jS.tA(xs:List jS):r6 (jS.of []) (mp jS.cells xs)=some xs:=Jb (jS.sR []) xs
def jS.CR:jS.row.enc=jS.cells/\jS.row.mo=jS.of []/\jS.row.sz=9/\jS.kv.enc=jS.cells/\jS.kv.mo=jS.of:=⟨rfl,rfl,rfl,rfl,rfl⟩
attribute [go_sem] jS.s4 jS.sR jS.tA jS.CR
def jS.prj:(∀(y0:Str)(y1:Syntax),(jS.mk y0 y1).name=y0)/\(∀(y0:Str)(y1:Syntax),(jS.mk y0 y1).t=y1):=⟨fun _ _=>rfl,fun _ _=>rfl⟩
attribute [go_sem] jS.prj
def jS.nbs:(∀(n:Nat)(x:jS),Go.Abs.w5 n x.cells=True)/\∀(n:Nat)(xs:List jS),Go.Abs.NC n (mp jS.cells xs)=True:=⟨fun n x=>eq_true (jS.nb n x),fun n xs=>eq_true (rA (jS.nb n) xs)⟩
def jS.aej:(∀(Y:Nat->Nat)(x:jS),sZ Y x.cells=x.cells)/\∀(Y:Nat->Nat)(xs:List jS),Gc Y (mp jS.cells xs)=mp jS.cells xs:=⟨fun Y x=>rR Y _ (jS.nb 0 x),fun Y xs=>wo Y _ (rA (jS.nb 0) xs)⟩
def jS.reads:
 (∀x:jS,cellsOf (.agg x.cells)=some x.cells)/\
 (∀x:jS,mN true 9 x.cells=some (.agg x.cells))/\
 (∀x:jS,mN false 1 x.cells=some (.str (sb x.name)))/\
 (∀x:jS,mN false 1 (x.cells.drop 1)=some (.int .i64 x.t.kind))/\
 (∀x:jS,mN false 1 (x.cells.drop 2)=some (.str (sb x.t.text)))/\
 (∀x:jS,mN false 1 (x.cells.drop 3)=some (.int .i64 x.t.num))/\
 (∀x:jS,mN false 1 (x.cells.drop 4)=some (.kW false 1 (mp nY x.t.lR)))/\
 (∀x:jS,mN false 1 (x.cells.drop 5)=some (.kW false 2 (mp jN.cells x.t.qN)))/\
 (∀x:jS,mN false 1 (x.cells.drop 6)=some (.kW false 8 (mp Syntax.cells x.t.wi)))/\
 (∀x:jS,mN false 1 (x.cells.drop 7)=some (.int .i64 x.t.kM))/\
 (∀x:jS,mN false 1 (x.cells.drop 8)=some (.int .i64 x.t.to))/\
 (∀x:jS,mN true 8 (x.cells.drop 1)=some (.agg x.t.cells)):=
 ⟨fun x=>by simp only[cellsOf,jS.qM,jE],
  fun x=>DW (jS.length x),
  fun x=>by rw[jS.kx];rfl,
  fun x=>by rw[jS.kx];rfl,
  fun x=>by rw[jS.kx];rfl,
  fun x=>by rw[jS.kx];rfl,
  fun x=>by rw[jS.kx];rfl,
  fun x=>by rw[jS.kx];rfl,
  fun x=>by rw[jS.kx];rfl,
  fun x=>by rw[jS.kx];rfl,
  fun x=>by rw[jS.kx];rfl,
  fun x=>by rw[jS.kx];simp only[Syntax.kx,List.drop_succ_cons,List.drop_zero];rfl⟩
attribute [go_sem] jS.nbs jS.aej jS.reads jS.length jS.qM
open Go.Proofs
def tf0:
 l4 fc 1=some (false,1)/\
 lv fc 1=none/\
 lI fc 1=some [.sO .nilFunc]/\
 oR fc 1=false/\
 k9 fc 1=true/\
 mr fc 1=true/\
 l4 fc 3=some (false,1)/\
 lv fc 3=none/\
 lI fc 3=some [.int .i64 0]/\
 oR fc 3=false/\
 aiZ fc 3=some .i64/\
 k9 fc 3=false/\
 mr fc 3=true/\
 l4 fc 4=some (false,1)/\
 lv fc 4=none/\
 lI fc 4=some [.bool false]/\
 oR fc 4=false/\
 k9 fc 4=true/\
 mr fc 4=true/\
 l4 fc 5=some (false,1)/\
 lv fc 5=none/\
 lI fc 5=some [.int .u8 0]/\
 oR fc 5=false/\
 aiZ fc 5=some .u8/\
 k9 fc 5=false/\
 mr fc 5=true/\
 l4 fc 9=some (false,1)/\
 lv fc 9=none/\
 lI fc 9=some [.str fj]/\
 oR fc 9=true/\
 aiZ fc 9=none/\
 k9 fc 9=true/\
 mr fc 9=true/\
 l4 fc 20=some (false,1)/\
 lv fc 20=none/\
 lI fc 20=some [.sO .nilIface]/\
 oR fc 20=false/\
 k9 fc 20=true/\
 mr fc 20=false/\
 l4 fc 21=some (false,1)/\
 lv fc 21=none/\
 lI fc 21=some [.int .i32 0]/\
 oR fc 21=false/\
 aiZ fc 21=some .i32/\
 k9 fc 21=false/\
 mr fc 21=true/\
 l4 fc 22=some (false,1)/\
 lv fc 22=some (25,4,56)/\
 lI fc 22=some [.kW true 0 []]/\
 oR fc 22=false/\
 k9 fc 22=true/\
 mr fc 22=true/\
 l4 fc 23=some (false,1)/\
 lv fc 23=some (9,1,16)/\
 lI fc 23=some [.kW true 0 []]/\
 oR fc 23=false/\
 k9 fc 23=true/\
 mr fc 23=true/\
 l4 fc 25=some (true,4)/\
 q7 fc 25=true/\
 nP fc 25 0=some (0,23)/\
 kq fc 25 0=some (0,1)/\
 nP fc 25 1=some (1,3)/\
 kq fc 25 1=some (1,1)/\
 nP fc 25 2=some (2,3)/\
 kq fc 25 2=some (2,1)/\
 nP fc 25 3=some (3,9)/\
 kq fc 25 3=some (3,1)/\
 lv fc 25=none/\
 lI fc 25=some [.kW true 0 [],.int .i64 0,.int .i64 0,.str fj]/\
 oR fc 25=false/\
 k9 fc 25=true/\
 mr fc 25=true/\
 l4 fc 28=some (false,1)/\
 lv fc 28=none/\
 lI fc 28=some [.int .i64 0]/\
 oR fc 28=false/\
 aiZ fc 28=some .i64/\
 k9 fc 28=false/\
 mr fc 28=true/\
 l4 fc 33=some (false,1)/\
 lv fc 33=none/\
 lI fc 33=some [.sO .nilFunc]/\
 oR fc 33=false/\
 k9 fc 33=true/\
 mr fc 33=true/\
 l4 fc 34=some (false,1)/\
 lv fc 34=some (112,2,32)/\
 lI fc 34=some [.kW true 0 []]/\
 oR fc 34=false/\
 k9 fc 34=true/\
 mr fc 34=true/\
 l4 fc 35=some (false,1)/\
 lv fc 35=some (37,8,120)/\
 lI fc 35=some [.kW true 0 []]/\
 oR fc 35=false/\
 k9 fc 35=true/\
 mr fc 35=true/\
 l4 fc 37=some (true,8)/\
 q7 fc 37=true/\
 nP fc 37 0=some (0,3)/\
 kq fc 37 0=some (0,1)/\
 nP fc 37 1=some (1,9)/\
 kq fc 37 1=some (1,1)/\
 nP fc 37 2=some (2,3)/\
 kq fc 37 2=some (2,1)/\
 nP fc 37 3=some (3,23)/\
 kq fc 37 3=some (3,1)/\
 nP fc 37 4=some (4,34)/\
 kq fc 37 4=some (4,1)/\
 nP fc 37 5=some (5,35)/\
 kq fc 37 5=some (5,1)/\
 nP fc 37 6=some (6,3)/\
 kq fc 37 6=some (6,1)/\
 nP fc 37 7=some (7,3)/\
 kq fc 37 7=some (7,1)/\
 lv fc 37=none/\
 lI fc 37=some [.int .i64 0,.str fj,.int .i64 0,.kW true 0 [],.kW true 0 [],.kW true 0 [],.int .i64 0,.int .i64 0]/\
 oR fc 37=false/\
 k9 fc 37=true:=
 ⟨jF,jF,jF,jF,jF,jF,jF,jF,jF,jF,jF,jF,jF,jF,jF,jF,jF,jF,jF,jF,jF,jF,jF,jF,jF,jF,jF,jF,jF,jF,jF,jF,jF,jF,jF,jF,jF,jF,jF,jF,jF,jF,jF,jF,jF,jF,jF,jF,jF,jF,jF,jF,jF,jF,jF,jF,jF,jF,jF,jF,jF,jF,jF,jF,jF,jF,jF,jF,jF,jF,jF,jF,jF,jF,jF,jF,jF,jF,jF,jF,jF,jF,jF,jF,jF,jF,jF,jF,jF,jF,jF,jF,jF,jF,jF,jF,jF,jF,jF,jF,jF,jF,jF,jF,jF,jF,jF,jF,jF,jF,jF,jF,jF,jF,jF,jF,jF,jF,jF,jF⟩
def tf1:
 mr fc 37=true/\
 l4 fc 42=some (false,1)/\
 lv fc 42=some (131,23,360)/\
 lI fc 42=some [.kW true 0 []]/\
 oR fc 42=false/\
 k9 fc 42=true/\
 mr fc 42=true/\
 l4 fc 43=some (false,1)/\
 lv fc 43=some (432,2,40)/\
 lI fc 43=some [.kW true 0 []]/\
 oR fc 43=false/\
 k9 fc 43=true/\
 mr fc 43=true/\
 l4 fc 45=some (true,7)/\
 q7 fc 45=true/\
 nP fc 45 0=some (0,42)/\
 kq fc 45 0=some (0,1)/\
 nP fc 45 1=some (1,43)/\
 kq fc 45 1=some (1,1)/\
 nP fc 45 2=some (2,23)/\
 kq fc 45 2=some (2,1)/\
 nP fc 45 3=some (3,23)/\
 kq fc 45 3=some (3,1)/\
 nP fc 45 4=some (4,22)/\
 kq fc 45 4=some (4,1)/\
 nP fc 45 5=some (5,23)/\
 kq fc 45 5=some (5,1)/\
 nP fc 45 6=some (6,23)/\
 kq fc 45 6=some (6,1)/\
 lv fc 45=none/\
 lI fc 45=some [.kW true 0 [],.kW true 0 [],.kW true 0 [],.kW true 0 [],.kW true 0 [],.kW true 0 [],.kW true 0 []]/\
 oR fc 45=false/\
 k9 fc 45=true/\
 mr fc 45=true/\
 l4 fc 46=some (false,1)/\
 lv fc 46=some (98,2,32)/\
 lI fc 46=some [.kW true 0 []]/\
 oR fc 46=false/\
 k9 fc 46=true/\
 mr fc 46=true/\
 l4 fc 47=some (false,1)/\
 lv fc 47=some (49,5,80)/\
 lI fc 47=some [.kW true 0 []]/\
 oR fc 47=false/\
 k9 fc 47=true/\
 mr fc 47=true/\
 l4 fc 49=some (true,5)/\
 q7 fc 49=true/\
 nP fc 49 0=some (0,3)/\
 kq fc 49 0=some (0,1)/\
 nP fc 49 1=some (1,3)/\
 kq fc 49 1=some (1,1)/\
 nP fc 49 2=some (2,9)/\
 kq fc 49 2=some (2,1)/\
 nP fc 49 3=some (3,46)/\
 kq fc 49 3=some (3,1)/\
 nP fc 49 4=some (4,47)/\
 kq fc 49 4=some (4,1)/\
 lv fc 49=none/\
 lI fc 49=some [.int .i64 0,.int .i64 0,.str fj,.kW true 0 [],.kW true 0 []]/\
 oR fc 49=false/\
 k9 fc 49=true/\
 mr fc 49=true/\
 l4 fc 51=some (true,14)/\
 q7 fc 51=true/\
 nP fc 51 0=some (0,45)/\
 kq fc 51 0=some (0,7)/\
 nP fc 51 1=some (7,23)/\
 kq fc 51 1=some (7,1)/\
 nP fc 51 2=some (8,23)/\
 kq fc 51 2=some (8,1)/\
 nP fc 51 3=some (9,49)/\
 kq fc 51 3=some (9,5)/\
 lv fc 51=none/\
 lI fc 51=some [.kW true 0 [],.kW true 0 [],.kW true 0 [],.kW true 0 [],.kW true 0 [],.kW true 0 [],.kW true 0 [],.kW true 0 [],.kW true 0 [],.int .i64 0,.int .i64 0,.str fj,.kW true 0 [],.kW true 0 []]/\
 oR fc 51=false/\
 k9 fc 51=true/\
 mr fc 51=true/\
 l4 fc 63=some (true,9)/\
 q7 fc 63=true/\
 nP fc 63 0=some (0,3)/\
 kq fc 63 0=some (0,1)/\
 nP fc 63 1=some (1,3)/\
 kq fc 63 1=some (1,1)/\
 nP fc 63 2=some (2,3)/\
 kq fc 63 2=some (2,1)/\
 nP fc 63 3=some (3,3)/\
 kq fc 63 3=some (3,1)/\
 nP fc 63 4=some (4,49)/\
 kq fc 63 4=some (4,5)/\
 lv fc 63=none/\
 lI fc 63=some [.int .i64 0,.int .i64 0,.int .i64 0,.int .i64 0,.int .i64 0,.int .i64 0,.str fj,.kW true 0 [],.kW true 0 []]/\
 oR fc 63=false/\
 k9 fc 63=true/\
 mr fc 63=true/\
 l4 fc 72=some (false,1)/\
 lv fc 72=none/\
 lI fc 72=some [.sO .nilFunc]/\
 oR fc 72=false/\
 k9 fc 72=true/\
 mr fc 72=true/\
 l4 fc 74=some (false,1)/\
 lv fc 74=none/\
 lI fc 74=some [.sO .nilFunc]/\
 oR fc 74=false/\
 k9 fc 74=true/\
 mr fc 74=true/\
 l4 fc 76=some (false,1)/\
 lv fc 76=none/\
 lI fc 76=some [.sO (.pointer none)]/\
 oR fc 76=false/\
 k9 fc 76=true/\
 mr fc 76=true/\
 l4 fc 85=some (true,2)/\
 q7 fc 85=true/\
 nP fc 85 0=some (0,28)/\
 kq fc 85 0=some (0,1)/\
 nP fc 85 1=some (1,3)/\
 kq fc 85 1=some (1,1)/\
 lv fc 85=none:=
 ⟨jF,jF,jF,jF,jF,jF,jF,jF,jF,jF,jF,jF,jF,jF,jF,jF,jF,jF,jF,jF,jF,jF,jF,jF,jF,jF,jF,jF,jF,jF,jF,jF,jF,jF,jF,jF,jF,jF,jF,jF,jF,jF,jF,jF,jF,jF,jF,jF,jF,jF,jF,jF,jF,jF,jF,jF,jF,jF,jF,jF,jF,jF,jF,jF,jF,jF,jF,jF,jF,jF,jF,jF,jF,jF,jF,jF,jF,jF,jF,jF,jF,jF,jF,jF,jF,jF,jF,jF,jF,jF,jF,jF,jF,jF,jF,jF,jF,jF,jF,jF,jF,jF,jF,jF,jF,jF,jF,jF,jF,jF,jF,jF,jF,jF,jF,jF,jF,jF,jF,jF⟩
def tf2:
 lI fc 85=some [.int .i64 0,.int .i64 0]/\
 oR fc 85=false/\
 k9 fc 85=true/\
 mr fc 85=true/\
 l4 fc 87=some (false,1)/\
 lv fc 87=none/\
 lI fc 87=some [.sO (.pointer none)]/\
 oR fc 87=false/\
 k9 fc 87=true/\
 mr fc 87=true/\
 l4 fc 96=some (false,1)/\
 lv fc 96=some (116,2,16)/\
 lI fc 96=some [.kW true 0 []]/\
 oR fc 96=false/\
 k9 fc 96=true/\
 mr fc 96=true/\
 l4 fc 98=some (true,2)/\
 q7 fc 98=true/\
 nP fc 98 0=some (0,3)/\
 kq fc 98 0=some (0,1)/\
 nP fc 98 1=some (1,96)/\
 kq fc 98 1=some (1,1)/\
 lv fc 98=none/\
 lI fc 98=some [.int .i64 0,.kW true 0 []]/\
 oR fc 98=false/\
 k9 fc 98=true/\
 mr fc 98=true/\
 l4 fc 99=some (false,1)/\
 lv fc 99=none/\
 lI fc 99=some [.sO .nilFunc]/\
 oR fc 99=false/\
 k9 fc 99=true/\
 mr fc 99=true/\
 l4 fc 100=some (false,1)/\
 lv fc 100=none/\
 lI fc 100=some [.sO (.pointer none)]/\
 oR fc 100=false/\
 k9 fc 100=true/\
 mr fc 100=true/\
 l4 fc 102=some (false,1)/\
 lv fc 102=some (9,1,16)/\
 lI fc 102=some [.kW true 0 []]/\
 oR fc 102=false/\
 k9 fc 102=true/\
 mr fc 102=true/\
 l4 fc 104=some (true,11)/\
 q7 fc 104=true/\
 nP fc 104 0=some (0,45)/\
 kq fc 104 0=some (0,7)/\
 nP fc 104 1=some (7,102)/\
 kq fc 104 1=some (7,1)/\
 nP fc 104 2=some (8,23)/\
 kq fc 104 2=some (8,1)/\
 nP fc 104 3=some (9,23)/\
 kq fc 104 3=some (9,1)/\
 nP fc 104 4=some (10,23)/\
 kq fc 104 4=some (10,1)/\
 lv fc 104=none/\
 lI fc 104=some [.kW true 0 [],.kW true 0 [],.kW true 0 [],.kW true 0 [],.kW true 0 [],.kW true 0 [],.kW true 0 [],.kW true 0 [],.kW true 0 [],.kW true 0 [],.kW true 0 []]/\
 oR fc 104=false/\
 k9 fc 104=true/\
 mr fc 104=true/\
 l4 fc 107=some (true,10)/\
 q7 fc 107=true/\
 nP fc 107 0=some (0,45)/\
 kq fc 107 0=some (0,7)/\
 nP fc 107 1=some (7,23)/\
 kq fc 107 1=some (7,1)/\
 nP fc 107 2=some (8,23)/\
 kq fc 107 2=some (8,1)/\
 nP fc 107 3=some (9,23)/\
 kq fc 107 3=some (9,1)/\
 lv fc 107=none/\
 lI fc 107=some [.kW true 0 [],.kW true 0 [],.kW true 0 [],.kW true 0 [],.kW true 0 [],.kW true 0 [],.kW true 0 [],.kW true 0 [],.kW true 0 [],.kW true 0 []]/\
 oR fc 107=false/\
 k9 fc 107=true/\
 mr fc 107=true/\
 l4 fc 110=some (false,1)/\
 lv fc 110=some (114,2,24)/\
 lI fc 110=some [.kW true 0 []]/\
 oR fc 110=false/\
 k9 fc 110=true/\
 mr fc 110=true/\
 l4 fc 112=some (true,2)/\
 q7 fc 112=true/\
 nP fc 112 0=some (0,4)/\
 kq fc 112 0=some (0,1)/\
 nP fc 112 1=some (1,110)/\
 kq fc 112 1=some (1,1)/\
 lv fc 112=none/\
 lI fc 112=some [.bool false,.kW true 0 []]/\
 oR fc 112=false/\
 k9 fc 112=true/\
 mr fc 112=true/\
 l4 fc 114=some (true,2)/\
 q7 fc 114=true/\
 nP fc 114 0=some (0,9)/\
 kq fc 114 0=some (0,1)/\
 nP fc 114 1=some (1,3)/\
 kq fc 114 1=some (1,1)/\
 lv fc 114=none/\
 lI fc 114=some [.str fj,.int .i64 0]/\
 oR fc 114=false/\
 k9 fc 114=true/\
 mr fc 114=true/\
 l4 fc 116=some (true,2)/\
 q7 fc 116=true/\
 nP fc 116 0=some (0,3)/\
 kq fc 116 0=some (0,1)/\
 nP fc 116 1=some (1,3)/\
 kq fc 116 1=some (1,1)/\
 lv fc 116=none/\
 lI fc 116=some [.int .i64 0,.int .i64 0]/\
 oR fc 116=false/\
 k9 fc 116=true/\
 mr fc 116=true/\
 l4 fc 126=some (false,1)/\
 lv fc 126=some (199,6,96)/\
 lI fc 126=some [.kW true 0 []]/\
 oR fc 126=false:=
 ⟨jF,jF,jF,jF,jF,jF,jF,jF,jF,jF,jF,jF,jF,jF,jF,jF,jF,jF,jF,jF,jF,jF,jF,jF,jF,jF,jF,jF,jF,jF,jF,jF,jF,jF,jF,jF,jF,jF,jF,jF,jF,jF,jF,jF,jF,jF,jF,jF,jF,jF,jF,jF,jF,jF,jF,jF,jF,jF,jF,jF,jF,jF,jF,jF,jF,jF,jF,jF,jF,jF,jF,jF,jF,jF,jF,jF,jF,jF,jF,jF,jF,jF,jF,jF,jF,jF,jF,jF,jF,jF,jF,jF,jF,jF,jF,jF,jF,jF,jF,jF,jF,jF,jF,jF,jF,jF,jF,jF,jF,jF,jF,jF,jF,jF,jF,jF,jF,jF,jF,jF⟩
def tf3:
 k9 fc 126=true/\
 mr fc 126=true/\
 l4 fc 128=some (true,7)/\
 q7 fc 128=true/\
 nP fc 128 0=some (0,3)/\
 kq fc 128 0=some (0,1)/\
 nP fc 128 1=some (1,49)/\
 kq fc 128 1=some (1,5)/\
 nP fc 128 2=some (6,47)/\
 kq fc 128 2=some (6,1)/\
 lv fc 128=none/\
 lI fc 128=some [.int .i64 0,.int .i64 0,.int .i64 0,.str fj,.kW true 0 [],.kW true 0 [],.kW true 0 []]/\
 oR fc 128=false/\
 k9 fc 128=true/\
 mr fc 128=true/\
 l4 fc 129=some (false,1)/\
 lv fc 129=some (204,15,224)/\
 lI fc 129=some [.kW true 0 []]/\
 oR fc 129=false/\
 k9 fc 129=true/\
 mr fc 129=true/\
 l4 fc 131=some (true,23)/\
 q7 fc 131=true/\
 nP fc 131 0=some (0,3)/\
 kq fc 131 0=some (0,1)/\
 nP fc 131 1=some (1,9)/\
 kq fc 131 1=some (1,1)/\
 nP fc 131 2=some (2,3)/\
 kq fc 131 2=some (2,1)/\
 nP fc 131 3=some (3,49)/\
 kq fc 131 3=some (3,5)/\
 nP fc 131 4=some (8,49)/\
 kq fc 131 4=some (8,5)/\
 nP fc 131 5=some (13,3)/\
 kq fc 131 5=some (13,1)/\
 nP fc 131 6=some (14,126)/\
 kq fc 131 6=some (14,1)/\
 nP fc 131 7=some (15,128)/\
 kq fc 131 7=some (15,7)/\
 nP fc 131 8=some (22,129)/\
 kq fc 131 8=some (22,1)/\
 lv fc 131=none/\
 lI fc 131=some [.int .i64 0,.str fj,.int .i64 0,.int .i64 0,.int .i64 0,.str fj,.kW true 0 [],.kW true 0 [],.int .i64 0,.int .i64 0,.str fj,.kW true 0 [],.kW true 0 [],.int .i64 0,.kW true 0 [],.int .i64 0,.int .i64 0,.int .i64 0,.str fj,.kW true 0 [],.kW true 0 [],.kW true 0 [],.kW true 0 []]/\
 oR fc 131=false/\
 k9 fc 131=true/\
 mr fc 131=true/\
 l4 fc 134=some (false,1)/\
 lv fc 134=none/\
 lI fc 134=some [.sO .nilFunc]/\
 oR fc 134=false/\
 k9 fc 134=true/\
 mr fc 134=true/\
 l4 fc 135=some (false,1)/\
 lv fc 135=none/\
 lI fc 135=some [.sO (.pointer none)]/\
 oR fc 135=false/\
 k9 fc 135=true/\
 mr fc 135=true/\
 l4 fc 136=some (false,1)/\
 lv fc 136=none/\
 lI fc 136=some [.sO (.pointer none)]/\
 oR fc 136=false/\
 k9 fc 136=true/\
 mr fc 136=true/\
 l4 fc 137=some (false,1)/\
 lv fc 137=some (5,1,1)/\
 lI fc 137=some [.kW true 0 []]/\
 oR fc 137=false/\
 k9 fc 137=true/\
 mr fc 137=true/\
 l4 fc 139=some (true,2)/\
 q7 fc 139=true/\
 nP fc 139 0=some (0,136)/\
 kq fc 139 0=some (0,1)/\
 nP fc 139 1=some (1,137)/\
 kq fc 139 1=some (1,1)/\
 lv fc 139=none/\
 lI fc 139=some [.sO (.pointer none),.kW true 0 []]/\
 oR fc 139=false/\
 k9 fc 139=true/\
 mr fc 139=true/\
 l4 fc 141=some (true,4)/\
 q7 fc 141=true/\
 nP fc 141 0=some (0,139)/\
 kq fc 141 0=some (0,2)/\
 nP fc 141 1=some (2,22)/\
 kq fc 141 1=some (2,1)/\
 nP fc 141 2=some (3,4)/\
 kq fc 141 2=some (3,1)/\
 lv fc 141=none/\
 lI fc 141=some [.sO (.pointer none),.kW true 0 [],.kW true 0 [],.bool false]/\
 oR fc 141=false/\
 k9 fc 141=true/\
 mr fc 141=true/\
 l4 fc 142=some (false,1)/\
 lv fc 142=none/\
 lI fc 142=some [.sO .nilFunc]/\
 oR fc 142=false/\
 k9 fc 142=true/\
 mr fc 142=true/\
 l4 fc 147=some (false,1)/\
 lv fc 147=none/\
 lI fc 147=some [.sO (.map none)]/\
 aam fc 147=some (.agg [.kW true 0 [],.int .i64 0,.int .i64 0,.str fj])/\
 oR fc 147=false/\
 k9 fc 147=true/\
 mr fc 147=true/\
 l4 fc 148=some (false,1)/\
 lv fc 148=none/\
 lI fc 148=some [.sO (.map none)]/\
 aam fc 148=some (.bool false)/\
 oR fc 148=false/\
 k9 fc 148=true/\
 mr fc 148=true/\
 l4 fc 150=some (true,4)/\
 q7 fc 150=true/\
 nP fc 150 0=some (0,147)/\
 kq fc 150 0=some (0,1)/\
 nP fc 150 1=some (1,147)/\
 kq fc 150 1=some (1,1):=
 ⟨jF,jF,jF,jF,jF,jF,jF,jF,jF,jF,jF,jF,jF,jF,jF,jF,jF,jF,jF,jF,jF,jF,jF,jF,jF,jF,jF,jF,jF,jF,jF,jF,jF,jF,jF,jF,jF,jF,jF,jF,jF,jF,jF,jF,jF,jF,jF,jF,jF,jF,jF,jF,jF,jF,jF,jF,jF,jF,jF,jF,jF,jF,jF,jF,jF,jF,jF,jF,jF,jF,jF,jF,jF,jF,jF,jF,jF,jF,jF,jF,jF,jF,jF,jF,jF,jF,jF,jF,jF,jF,jF,jF,jF,jF,jF,jF,jF,jF,jF,jF,jF,jF,jF,jF,jF,jF,jF,jF,jF,jF,jF,jF,jF,jF,jF,jF,jF,jF,jF,jF⟩
def tf4:
 nP fc 150 2=some (2,148)/\
 kq fc 150 2=some (2,1)/\
 nP fc 150 3=some (3,3)/\
 kq fc 150 3=some (3,1)/\
 lv fc 150=none/\
 lI fc 150=some [.sO (.map none),.sO (.map none),.sO (.map none),.int .i64 0]/\
 oR fc 150=false/\
 k9 fc 150=true/\
 mr fc 150=true/\
 l4 fc 155=some (false,1)/\
 lv fc 155=some (170,3,32)/\
 lI fc 155=some [.kW true 0 []]/\
 oR fc 155=false/\
 k9 fc 155=true/\
 mr fc 155=true/\
 l4 fc 157=some (true,3)/\
 q7 fc 157=true/\
 nP fc 157 0=some (0,155)/\
 kq fc 157 0=some (0,1)/\
 nP fc 157 1=some (1,3)/\
 kq fc 157 1=some (1,1)/\
 nP fc 157 2=some (2,3)/\
 kq fc 157 2=some (2,1)/\
 lv fc 157=none/\
 lI fc 157=some [.kW true 0 [],.int .i64 0,.int .i64 0]/\
 oR fc 157=false/\
 k9 fc 157=true/\
 mr fc 157=true/\
 l4 fc 160=some (true,6)/\
 q7 fc 160=true/\
 nP fc 160 0=some (0,157)/\
 kq fc 160 0=some (0,3)/\
 nP fc 160 1=some (3,22)/\
 kq fc 160 1=some (3,1)/\
 nP fc 160 2=some (4,23)/\
 kq fc 160 2=some (4,1)/\
 nP fc 160 3=some (5,3)/\
 kq fc 160 3=some (5,1)/\
 lv fc 160=none/\
 lI fc 160=some [.kW true 0 [],.int .i64 0,.int .i64 0,.kW true 0 [],.kW true 0 [],.int .i64 0]/\
 oR fc 160=false/\
 k9 fc 160=true/\
 mr fc 160=true/\
 l4 fc 166=some (false,1)/\
 lv fc 166=some (225,9,136)/\
 lI fc 166=some [.kW true 0 []]/\
 oR fc 166=false/\
 k9 fc 166=true/\
 mr fc 166=true/\
 l4 fc 170=some (true,3)/\
 q7 fc 170=true/\
 nP fc 170 0=some (0,3)/\
 kq fc 170 0=some (0,1)/\
 nP fc 170 1=some (1,9)/\
 kq fc 170 1=some (1,1)/\
 nP fc 170 2=some (2,3)/\
 kq fc 170 2=some (2,1)/\
 lv fc 170=none/\
 lI fc 170=some [.int .i64 0,.str fj,.int .i64 0]/\
 oR fc 170=false/\
 k9 fc 170=true/\
 mr fc 170=true/\
 l4 fc 175=some (false,1)/\
 lv fc 175=none/\
 lI fc 175=some [.sO .nilFunc]/\
 oR fc 175=false/\
 k9 fc 175=true/\
 mr fc 175=true/\
 l4 fc 187=some (false,1)/\
 lv fc 187=none/\
 lI fc 187=some [.sO .nilFunc]/\
 oR fc 187=false/\
 k9 fc 187=true/\
 mr fc 187=true/\
 l4 fc 199=some (true,6)/\
 q7 fc 199=true/\
 nP fc 199 0=some (0,9)/\
 kq fc 199 0=some (0,1)/\
 nP fc 199 1=some (1,49)/\
 kq fc 199 1=some (1,5)/\
 lv fc 199=none/\
 lI fc 199=some [.str fj,.int .i64 0,.int .i64 0,.str fj,.kW true 0 [],.kW true 0 []]/\
 oR fc 199=false/\
 k9 fc 199=true/\
 mr fc 199=true/\
 l4 fc 200=some (false,1)/\
 lv fc 200=some (345,10,144)/\
 lI fc 200=some [.kW true 0 []]/\
 oR fc 200=false/\
 k9 fc 200=true/\
 mr fc 200=true/\
 l4 fc 202=some (true,8)/\
 q7 fc 202=true/\
 nP fc 202 0=some (0,3)/\
 kq fc 202 0=some (0,1)/\
 nP fc 202 1=some (1,49)/\
 kq fc 202 1=some (1,5)/\
 nP fc 202 2=some (6,3)/\
 kq fc 202 2=some (6,1)/\
 nP fc 202 3=some (7,200)/\
 kq fc 202 3=some (7,1)/\
 lv fc 202=none/\
 lI fc 202=some [.int .i64 0,.int .i64 0,.int .i64 0,.str fj,.kW true 0 [],.kW true 0 [],.int .i64 0,.kW true 0 []]/\
 oR fc 202=false/\
 k9 fc 202=true/\
 mr fc 202=true/\
 l4 fc 204=some (true,15)/\
 q7 fc 204=true/\
 nP fc 204 0=some (0,9)/\
 kq fc 204 0=some (0,1)/\
 nP fc 204 1=some (1,49)/\
 kq fc 204 1=some (1,5)/\
 nP fc 204 2=some (6,3)/\
 kq fc 204 2=some (6,1)/\
 nP fc 204 3=some (7,202)/\
 kq fc 204 3=some (7,8)/\
 lv fc 204=none/\
 lI fc 204=some [.str fj,.int .i64 0,.int .i64 0,.str fj,.kW true 0 [],.kW true 0 [],.int .i64 0,.int .i64 0,.int .i64 0,.int .i64 0,.str fj,.kW true 0 [],.kW true 0 [],.int .i64 0,.kW true 0 []]/\
 oR fc 204=false/\
 k9 fc 204=true:=
 ⟨jF,jF,jF,jF,jF,jF,jF,jF,jF,jF,jF,jF,jF,jF,jF,jF,jF,jF,jF,jF,jF,jF,jF,jF,jF,jF,jF,jF,jF,jF,jF,jF,jF,jF,jF,jF,jF,jF,jF,jF,jF,jF,jF,jF,jF,jF,jF,jF,jF,jF,jF,jF,jF,jF,jF,jF,jF,jF,jF,jF,jF,jF,jF,jF,jF,jF,jF,jF,jF,jF,jF,jF,jF,jF,jF,jF,jF,jF,jF,jF,jF,jF,jF,jF,jF,jF,jF,jF,jF,jF,jF,jF,jF,jF,jF,jF,jF,jF,jF,jF,jF,jF,jF,jF,jF,jF,jF,jF,jF,jF,jF,jF,jF,jF,jF,jF,jF,jF,jF,jF⟩
def tf5:
 mr fc 204=true/\
 l4 fc 222=some (false,1)/\
 lv fc 222=none/\
 lI fc 222=some [.sO (.pointer none)]/\
 oR fc 222=false/\
 k9 fc 222=true/\
 mr fc 222=true/\
 l4 fc 225=some (true,9)/\
 q7 fc 225=true/\
 nP fc 225 0=some (0,9)/\
 kq fc 225 0=some (0,1)/\
 nP fc 225 1=some (1,37)/\
 kq fc 225 1=some (1,8)/\
 lv fc 225=none/\
 lI fc 225=some [.str fj,.int .i64 0,.str fj,.int .i64 0,.kW true 0 [],.kW true 0 [],.kW true 0 [],.int .i64 0,.int .i64 0]/\
 oR fc 225=false/\
 k9 fc 225=true/\
 mr fc 225=true/\
 l4 fc 234=some (false,1)/\
 lv fc 234=none/\
 lI fc 234=some [.sO .nilFunc]/\
 oR fc 234=false/\
 k9 fc 234=true/\
 mr fc 234=true/\
 l4 fc 236=some (true,5)/\
 q7 fc 236=true/\
 nP fc 236 0=some (0,4)/\
 kq fc 236 0=some (0,1)/\
 nP fc 236 1=some (1,4)/\
 kq fc 236 1=some (1,1)/\
 nP fc 236 2=some (2,3)/\
 kq fc 236 2=some (2,1)/\
 nP fc 236 3=some (3,3)/\
 kq fc 236 3=some (3,1)/\
 nP fc 236 4=some (4,3)/\
 kq fc 236 4=some (4,1)/\
 lv fc 236=none/\
 lI fc 236=some [.bool false,.bool false,.int .i64 0,.int .i64 0,.int .i64 0]/\
 oR fc 236=false/\
 k9 fc 236=true/\
 mr fc 236=true/\
 l4 fc 237=some (true,65)/\
 ak1 fc 237=some (13,5)/\
 q7 fc 237=true/\
 kq fc 237 0=some (0,5)/\
 kq fc 237 1=some (5,5)/\
 kq fc 237 2=some (10,5)/\
 kq fc 237 3=some (15,5)/\
 kq fc 237 4=some (20,5)/\
 kq fc 237 5=some (25,5)/\
 kq fc 237 6=some (30,5)/\
 kq fc 237 7=some (35,5)/\
 kq fc 237 8=some (40,5)/\
 kq fc 237 9=some (45,5)/\
 kq fc 237 10=some (50,5)/\
 kq fc 237 11=some (55,5)/\
 kq fc 237 12=some (60,5)/\
 lv fc 237=none/\
 lI fc 237=some [.bool false,.bool false,.int .i64 0,.int .i64 0,.int .i64 0,.bool false,.bool false,.int .i64 0,.int .i64 0,.int .i64 0,.bool false,.bool false,.int .i64 0,.int .i64 0,.int .i64 0,.bool false,.bool false,.int .i64 0,.int .i64 0,.int .i64 0,.bool false,.bool false,.int .i64 0,.int .i64 0,.int .i64 0,.bool false,.bool false,.int .i64 0,.int .i64 0,.int .i64 0,.bool false,.bool false,.int .i64 0,.int .i64 0,.int .i64 0,.bool false,.bool false,.int .i64 0,.int .i64 0,.int .i64 0,.bool false,.bool false,.int .i64 0,.int .i64 0,.int .i64 0,.bool false,.bool false,.int .i64 0,.int .i64 0,.int .i64 0,.bool false,.bool false,.int .i64 0,.int .i64 0,.int .i64 0,.bool false,.bool false,.int .i64 0,.int .i64 0,.int .i64 0,.bool false,.bool false,.int .i64 0,.int .i64 0,.int .i64 0]/\
 oR fc 237=false/\
 k9 fc 237=true/\
 mr fc 237=true/\
 l4 fc 240=some (true,13)/\
 ak1 fc 240=some (13,1)/\
 q7 fc 240=true/\
 kq fc 240 0=some (0,1)/\
 kq fc 240 1=some (1,1)/\
 kq fc 240 2=some (2,1)/\
 kq fc 240 3=some (3,1)/\
 kq fc 240 4=some (4,1)/\
 kq fc 240 5=some (5,1)/\
 kq fc 240 6=some (6,1)/\
 kq fc 240 7=some (7,1)/\
 kq fc 240 8=some (8,1)/\
 kq fc 240 9=some (9,1)/\
 kq fc 240 10=some (10,1)/\
 kq fc 240 11=some (11,1)/\
 kq fc 240 12=some (12,1)/\
 lv fc 240=none/\
 lI fc 240=some [.int .i64 0,.int .i64 0,.int .i64 0,.int .i64 0,.int .i64 0,.int .i64 0,.int .i64 0,.int .i64 0,.int .i64 0,.int .i64 0,.int .i64 0,.int .i64 0,.int .i64 0]/\
 oR fc 240=false/\
 k9 fc 240=true/\
 mr fc 240=true/\
 l4 fc 244=some (false,1)/\
 lv fc 244=none/\
 lI fc 244=some [.sO .nilFunc]/\
 oR fc 244=false/\
 k9 fc 244=true/\
 mr fc 244=true/\
 l4 fc 247=some (false,1)/\
 lv fc 247=some (3,1,8)/\
 lI fc 247=some [.kW true 0 []]/\
 oR fc 247=false/\
 k9 fc 247=true/\
 mr fc 247=true/\
 l4 fc 267=some (false,1)/\
 lv fc 267=none/\
 lI fc 267=some [.sO (.pointer none)]/\
 oR fc 267=false/\
 k9 fc 267=true/\
 mr fc 267=true/\
 l4 fc 270=some (true,5)/\
 q7 fc 270=true/\
 nP fc 270 0=some (0,9)/\
 kq fc 270 0=some (0,1)/\
 nP fc 270 1=some (1,3)/\
 kq fc 270 1=some (1,1)/\
 nP fc 270 2=some (2,148)/\
 kq fc 270 2=some (2,1)/\
 nP fc 270 3=some (3,148)/\
 kq fc 270 3=some (3,1)/\
 nP fc 270 4=some (4,148)/\
 kq fc 270 4=some (4,1)/\
 lv fc 270=none/\
 lI fc 270=some [.str fj,.int .i64 0,.sO (.map none),.sO (.map none),.sO (.map none)]/\
 oR fc 270=false/\
 k9 fc 270=true/\
 mr fc 270=true/\
 l4 fc 271=some (false,1)/\
 lv fc 271=some (23,1,24):=
 ⟨jF,jF,jF,jF,jF,jF,jF,jF,jF,jF,jF,jF,jF,jF,jF,jF,jF,jF,jF,jF,jF,jF,jF,jF,jF,jF,jF,jF,jF,jF,jF,jF,jF,jF,jF,jF,jF,jF,jF,jF,jF,jF,jF,jF,jF,jF,jF,jF,jF,jF,jF,jF,jF,jF,jF,jF,jF,jF,jF,jF,jF,jF,jF,jF,jF,jF,jF,jF,jF,jF,jF,jF,jF,jF,jF,jF,jF,jF,jF,jF,jF,jF,jF,jF,jF,jF,jF,jF,jF,jF,jF,jF,jF,jF,jF,jF,jF,jF,jF,jF,jF,jF,jF,jF,jF,jF,jF,jF,jF,jF,jF,jF,jF,jF,jF,jF,jF,jF,jF,jF⟩
def tf6:
 lI fc 271=some [.kW true 0 []]/\
 oR fc 271=false/\
 k9 fc 271=true/\
 mr fc 271=true/\
 l4 fc 272=some (false,1)/\
 lv fc 272=none/\
 lI fc 272=some [.sO .nilFunc]/\
 oR fc 272=false/\
 k9 fc 272=true/\
 mr fc 272=true/\
 l4 fc 273=some (true,4)/\
 ak1 fc 273=some (4,1)/\
 q7 fc 273=true/\
 kq fc 273 0=some (0,1)/\
 kq fc 273 1=some (1,1)/\
 kq fc 273 2=some (2,1)/\
 kq fc 273 3=some (3,1)/\
 lv fc 273=none/\
 lI fc 273=some [.sO .nilFunc,.sO .nilFunc,.sO .nilFunc,.sO .nilFunc]/\
 oR fc 273=false/\
 k9 fc 273=true/\
 mr fc 273=true/\
 l4 fc 281=some (false,1)/\
 lv fc 281=none/\
 lI fc 281=some [.sO .nilFunc]/\
 oR fc 281=false/\
 k9 fc 281=true/\
 mr fc 281=true/\
 l4 fc 285=some (false,1)/\
 lv fc 285=some (9,1,16)/\
 lI fc 285=some [.kW true 0 []]/\
 oR fc 285=false/\
 k9 fc 285=true/\
 mr fc 285=true/\
 l4 fc 308=some (false,1)/\
 lv fc 308=none/\
 lI fc 308=some [.sO (.pointer none)]/\
 oR fc 308=false/\
 k9 fc 308=true/\
 mr fc 308=true/\
 l4 fc 310=some (true,3)/\
 q7 fc 310=true/\
 nP fc 310 0=some (0,76)/\
 kq fc 310 0=some (0,1)/\
 nP fc 310 1=some (1,35)/\
 kq fc 310 1=some (1,1)/\
 nP fc 310 2=some (2,3)/\
 kq fc 310 2=some (2,1)/\
 lv fc 310=none/\
 lI fc 310=some [.sO (.pointer none),.kW true 0 [],.int .i64 0]/\
 oR fc 310=false/\
 k9 fc 310=true/\
 mr fc 310=true/\
 l4 fc 312=some (true,0)/\
 q7 fc 312=true/\
 lv fc 312=none/\
 lI fc 312=some []/\
 oR fc 312=false/\
 k9 fc 312=true/\
 mr fc 312=true/\
 l4 fc 325=some (false,1)/\
 lv fc 325=none/\
 lI fc 325=some [.sO (.pointer none)]/\
 oR fc 325=false/\
 k9 fc 325=true/\
 mr fc 325=true/\
 l4 fc 327=some (true,1)/\
 q7 fc 327=true/\
 nP fc 327 0=some (0,147)/\
 kq fc 327 0=some (0,1)/\
 lv fc 327=none/\
 lI fc 327=some [.sO (.map none)]/\
 oR fc 327=false/\
 k9 fc 327=true/\
 mr fc 327=true/\
 l4 fc 330=some (true,256)/\
 ak1 fc 330=some (256,1)/\
 q7 fc 330=true/\
 lv fc 330=none/\
 oR fc 330=false/\
 k9 fc 330=true/\
 mr fc 330=true/\
 l4 fc 332=some (false,1)/\
 lv fc 332=none/\
 lI fc 332=some [.sO .nilFunc]/\
 oR fc 332=false/\
 k9 fc 332=true/\
 mr fc 332=true/\
 l4 fc 337=some (true,256)/\
 ak1 fc 337=some (256,1)/\
 q7 fc 337=true/\
 lv fc 337=none/\
 oR fc 337=false/\
 k9 fc 337=true/\
 mr fc 337=true/\
 l4 fc 345=some (true,10)/\
 q7 fc 345=true/\
 nP fc 345 0=some (0,9)/\
 kq fc 345 0=some (0,1)/\
 nP fc 345 1=some (1,4)/\
 kq fc 345 1=some (1,1)/\
 nP fc 345 2=some (2,202)/\
 kq fc 345 2=some (2,8)/\
 lv fc 345=none/\
 lI fc 345=some [.str fj,.bool false,.int .i64 0,.int .i64 0,.int .i64 0,.str fj,.kW true 0 [],.kW true 0 [],.int .i64 0,.kW true 0 []]/\
 oR fc 345=false/\
 k9 fc 345=true/\
 mr fc 345=true/\
 l4 fc 347=some (true,25)/\
 q7 fc 347=true/\
 nP fc 347 0=some (0,42)/\
 kq fc 347 0=some (0,1)/\
 nP fc 347 1=some (1,23)/\
 kq fc 347 1=some (1,1)/\
 nP fc 347 2=some (2,131)/\
 kq fc 347 2=some (2,23)/\
 lv fc 347=none/\
 lI fc 347=some [.kW true 0 [],.kW true 0 [],.int .i64 0,.str fj,.int .i64 0,.int .i64 0,.int .i64 0,.str fj,.kW true 0 [],.kW true 0 [],.int .i64 0,.int .i64 0,.str fj,.kW true 0 [],.kW true 0 [],.int .i64 0,.kW true 0 [],.int .i64 0,.int .i64 0,.int .i64 0,.str fj,.kW true 0 [],.kW true 0 [],.kW true 0 [],.kW true 0 []]/\
 oR fc 347=false/\
 k9 fc 347=true:=
 ⟨jF,jF,jF,jF,jF,jF,jF,jF,jF,jF,jF,jF,jF,jF,jF,jF,jF,jF,jF,jF,jF,jF,jF,jF,jF,jF,jF,jF,jF,jF,jF,jF,jF,jF,jF,jF,jF,jF,jF,jF,jF,jF,jF,jF,jF,jF,jF,jF,jF,jF,jF,jF,jF,jF,jF,jF,jF,jF,jF,jF,jF,jF,jF,jF,jF,jF,jF,jF,jF,jF,jF,jF,jF,jF,jF,jF,jF,jF,jF,jF,jF,jF,jF,jF,jF,jF,jF,jF,jF,jF,jF,jF,jF,jF,jF,jF,jF,jF,jF,jF,jF,jF,jF,jF,jF,jF,jF,jF,jF,jF,jF,jF,jF,jF,jF,jF,jF,jF,jF,jF⟩
def tf7:
 mr fc 347=true/\
 l4 fc 389=some (false,1)/\
 lv fc 389=none/\
 lI fc 389=some [.sO (.pointer none)]/\
 oR fc 389=false/\
 k9 fc 389=true/\
 mr fc 389=true/\
 l4 fc 432=some (true,2)/\
 q7 fc 432=true/\
 nP fc 432 0=some (0,9)/\
 kq fc 432 0=some (0,1)/\
 nP fc 432 1=some (1,247)/\
 kq fc 432 1=some (1,1)/\
 lv fc 432=none/\
 lI fc 432=some [.str fj,.kW true 0 []]/\
 oR fc 432=false/\
 k9 fc 432=true/\
 mr fc 432=true/\
 tbl fc 4=true/\
 ar5 fc 20=true/\
 ant fc=true:=
 ⟨jF,jF,jF,jF,jF,jF,jF,jF,jF,jF,jF,jF,jF,jF,jF,jF,jF,jF,jF,jF,jF⟩
def mixed:Tryz.prog.follows .mixedOrders=true:=jF
attribute [go_sem] tf0 tf1 tf2 tf3 tf4 tf5 tf6 tf7
open Go.Proofs
set_option maxRecDepth 100000
def jU.aG1(a b:jU):ami fc 114 a.cells b.cells=True:=by
 refine eq_true (atu (jF) (jF) (jF) ?_);rw[jU.kx,jU.kx];exact⟨⟨by decide,jF,jF,by dsimp only;kernel_rfl⟩,⟨by decide,jF,jF,rfl,.i64,jF⟩,trivial⟩
def jU.eqB(a b:jU):Go.Abs.eqB a.cells b.cells=((a.name==b.name)&&(a.plus==b.plus)):=by
 rw[jU.kx,jU.kx];simp only[Go.Abs.eqB,eq1,VK,Bool.and_true]
attribute [go_sem] jU.aG1 jU.eqB
def kF.sc(x:kF):x.cells.map sc1=x.cells:=by
 rw[kF.kx];rfl
attribute [go_sem] kF.sc
def jI.aG2:∀x y:jI,((lD jI.kv)).enc x=((lD jI.kv)).enc y->x=y:=fun x y h=>by
 have h2:jI.cells x=jI.cells y:=AV.agg.inj h;have h3:jI.of [] x.cells=jI.of [] y.cells:=by rw[h2]
 rw[jI.sR,jI.sR]at h3;exact Option.some.inj h3
def jI.aIv:(∀xs,aei (lD jI.kv) (.map (mp (M7 (lD jI.kv)) xs))=some xs)/\aei (lD jI.kv) (.map [])=some []/\aei (lD jI.kv) (.map (mp He []))=some []:=ayZ jI.aG2
def jI.aG3(l:Nat)(s:Str)(v:jI)(xs:List (Str×jI)):CH l (sb s) (.agg v.cells) (some (.map (mp (M7 (lD jI.kv)) xs)))=some {val:=.any,rd:=[l],up:=[(l,.map (mp (M7 (lD jI.kv)) (Bi s v xs)))]}:=by
 have:=aBQ (t:=(lD jI.kv)) (l:=l) (s:=s) (v:=v) (xs:=xs)
 rwa [show((lD jI.kv)).enc v=.agg v.cells from rfl]at this
attribute [go_sem] jI.aIv jI.aG3
abbrev Te:Type:=(jH×Unit)
abbrev T6:Type:=(Te×Unit)
abbrev Ta:Type:=(List (Str×jI))
abbrev Tb:Type:=(List (Str×Bool))
abbrev T7:Type:=((Int×Unit)×(Ta×(Ta×(Tb×Unit))))
abbrev T8:Type:=(jW×Unit)
abbrev T9:Type:=(((List jI)×(Bool×Unit))×(Str×Unit))
abbrev Tc:Type:=(((List Syntax)×(Int×Unit))×T7)
abbrev Td:Type:=(PR (T6×(Syntax×Unit)) (T6×T8))
abbrev Tf:Type:=(PR ((Te×((Syntax×Unit)×Unit))×Unit) ((Te×((Syntax×Unit)×Unit))×T8))
abbrev Tg:Type:=(List jN)
abbrev Th:Type:=(Unit×((Syntax×Unit)×((Int×Unit)×((Int×Unit)×Tc))))
abbrev Ti:Type:=((Syntax×Unit)×((Int×Unit)×((Int×Unit)×Unit)))
abbrev Tj:Type:=(PR ((Te×(Unit×(Unit×((List jU)×Unit))))×Unit) ((Te×(Unit×(Unit×((List jU)×Unit))))×T8))
abbrev Tk:Type:=((Str×(Int×Unit))×(Tb×(Tb×(Tb×Unit))))
abbrev Tl:Type:=((Unit×((List Syntax)×(Ta×Unit)))×Unit)
abbrev Tm:Type:=(PR (Tc×(Syntax×(Int×Unit))) (Tc×(Unit×Unit)))
abbrev Tn:Type:=(PR ((Unit×(Unit×((List jU)×T6)))×Unit) ((Unit×(Unit×((List jU)×T6)))×T8))
abbrev To:Type:=((List Str)×Unit)
abbrev Tp:Type:=((List Syntax)×Unit)
abbrev Tq:Type:=(PR (Tc×(Syntax×Unit)) (Tc×(Unit×Unit)))
abbrev Ts:Type:=(Unit×(Ta×Unit))
abbrev Tt:Type:=((Unit×Int)×((Syntax×Unit)×((Syntax×Unit)×Unit)))
abbrev TB:Type:=(List jS)
abbrev Tu:Type:=(PR (T6×(TB×Unit)) (T6×T8))
abbrev Tv:Type:=(PR (T6×Unit) (T6×T8))
abbrev Tw:Type:=(PR ((Te×(Unit×(Unit×(Tg×Unit))))×Unit) ((Te×(Unit×(Unit×(Tg×Unit))))×T8))
abbrev Tx:Type:=(PR (T6×((List jU)×Unit)) (T6×T8))
abbrev Tz:Type:=((Unit×Int)×(Unit×(Tb×Unit)))
abbrev TA:Type:=((List Syntax)×(Bool×Unit))
abbrev TC:Type:=(Tk×(Int×(Int×(Int×Unit))))
abbrev TD:Type:=((List jI)×Unit)
abbrev TE:Type:=(PR ((Unit×(Unit×(Tg×T6)))×Unit) ((Unit×(Unit×(Tg×T6)))×T8))
abbrev TF:Type:=(T6×(Str×Unit))
abbrev TG:Type:=((Str×Unit)×Unit)
abbrev TH:Type:=(PR (T6×(jN×Unit)) (T6×T8))
abbrev TI:Type:=(Ts×(Int×Unit))
abbrev TJ:Type:=(PR (T6×To) (T6×T8))
abbrev TK:Type:=(PR (T6×Tp) (T6×T8))
abbrev TL:Type:=((List kF)×Int×Int)
abbrev TM:Type:=(PR (Unit×(jX×Unit)) (Unit×T8))
abbrev TN:Type:=((Unit×T6)×Unit)
abbrev TO:Type:=(Syntax×Int×Int)
abbrev TP:Type:=(PR (Unit×Unit) (T7×Unit))
abbrev TQ:Type:=(T9×(Int×Unit))
abbrev TR:Type:=(Ts×(jI×TA))
abbrev TS:Type:=(PR (T7×(Str×To)) (T7×(Str×To)))
abbrev TT:Type:=(Ts×(Bool×Unit))
abbrev TU:Type:=(T7×(Int×Unit))
abbrev TV:Type:=(PR (T6×(Int×Unit)) (T6×T8))
abbrev TW:Type:=(PR (T6×(Tg×Unit)) (T6×T8))
abbrev TX:Type:=((Str×Unit)×(Bool×Unit))
abbrev TY:Type:=((Tg×Unit)×Unit)
abbrev TZ:Type:=(Tc×(Str×(Bool×Unit)))
abbrev T10:Type:=(Unit×((Syntax×Unit)×((Syntax×Unit)×Unit)))
abbrev T11:Type:=(PR (T6×Unit) (Unit×T8))
abbrev T12:Type:=(TG×(Int×Unit))
end Go.Abs
