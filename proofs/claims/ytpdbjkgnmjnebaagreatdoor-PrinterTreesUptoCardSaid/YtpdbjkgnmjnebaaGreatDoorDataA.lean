/- A part of the proof: the data of the program. -/
import Derived.Test.YtpdbjkgnmjnebaaGreatDoorCoreC
import Derived.Test.YtpdbjkgnmjnebaaGreatDoorProg
import Derived.KernelRfl
import Derived.Test.YtpdbjkgnmjnebaaGreatDoorCoreD
set_option linter.all false
open Go.Proofs.Tryz renaming prog→ff
open Option renaming bind_eq_some_iff→fg
open Option.some renaming injEq→fi
open ByteArray renaming empty→fj
open List renaming drop_succ_cons→fk,drop_zero→fo,cons_append→fp,nil_append→fq,append_nil→fw,map_cons→fx,map_nil→fy
open Bool renaming true_or→fm
namespace Go.Abs
variable {c10 c11 c12 c13 c7 c8 c9:AV}{cs:List AV}{H:List j6}{n:Nat}{O:Type}
set_option maxRecDepth 10000
def avL(n:Nat)(x:Int):ua n (LP x):=⟨trivial,trivial⟩
def aKL(n:Nat)(x:Int):ua n (avm x):=⟨trivial,trivial⟩
def wF(n:Nat)(x:kp):ua n (kS x):=⟨trivial,trivial⟩
def aDz(n:Nat)(x:Bool):ua n (apk x):=⟨trivial,trivial⟩
def mz{W:Type}{f:W->List AV}{n:Nat}(h:∀x,ua n (f x)):∀xs:List W,alP n (mp f xs)
 |[]=>by rw[qj];trivial
 |x::xs=>by have:=mz h xs;rw[qj]at this ⊢;exact⟨h x,this⟩
def p5(h:cs.length=n):kq true n cs=some (.agg cs):=by
 simp only[kq,<-h,Nat.le_refl,jN,List.take_length]
def aKM:(∀(n:Nat)(xs:List Int),alP n (mp LP xs)=True)/\(∀(n:Nat)(xs:List Int),alP n (mp avm xs)=True)/\(∀(n:Nat)(xs:List kp),alP n (mp kS xs)=True)/\∀(n:Nat)(xs:List Bool),alP n (mp apk xs)=True:=⟨fun n xs=>eq_true (mz (avL n) xs),fun n xs=>eq_true (mz (aKL n) xs),fun n xs=>eq_true (mz (wF n) xs),fun n xs=>eq_true (mz (aDz n) xs)⟩
def aIt:(∀(Y:Nat->Nat)(xs:List Int),FX Y (mp LP xs)=mp LP xs)/\(∀(Y:Nat->Nat)(xs:List kp),FX Y (mp kS xs)=mp kS xs)/\∀(Y:Nat->Nat)(xs:List Bool),FX Y (mp apk xs)=mp apk xs:=⟨fun Y xs=>uE Y _ (mz (avL 0) xs),fun Y xs=>uE Y _ (mz (wF 0) xs),fun Y xs=>uE Y _ (mz (aDz 0) xs)⟩
attribute [go_sem] LP kS apk avm aKM aIt
def MZ {W:Type}{f:O->Option W}{g:W->O}(h:∀x,f (g x)=some x):∀(xs:List W)(i:Nat)(r:O),qR f ((mp g xs).set i r)=bif decide (i<xs.length)then(f r).bind fun y=>some (xs.set i y)else some xs:=by
 intro xs;rw[qj];induction xs with
 |nil=>intro i r;simp [qR]
 |cons x xs ih=>
  intro i r;cases i with
  |zero=>
   simp only[fx,List.set_cons_zero,qR,avl h,List.length_cons,Nat.zero_lt_succ,decide_true,jF];cases f r<;>rfl
  |succ i=>
   simp only[fx,List.set_cons_succ,qR,h,ih i r,List.length_cons,Nat.succ_lt_succ_iff,Option.bind_some];by_cases hi:i<xs.length
   ·simp only[hi,decide_true,jF];cases f r<;>rfl
   ·simp only[hi,decide_false,jG];rfl
def aIu:(∀(xs:List Int)(i:Nat)(r:List AV),qR (dI1 .i64) ((mp LP xs).set i r)=bif decide (i<xs.length)then(dI1 .i64 r).bind fun y=>some (xs.set i y)else some xs)/\(∀(xs:List Bool)(i:Nat)(r:List AV),qR dB1 ((mp apk xs).set i r)=bif decide (i<xs.length)then(dB1 r).bind fun y=>some (xs.set i y)else some xs)/\(∀(xs:List kp)(i:Nat)(r:List AV),qR dS1 ((mp kS xs).set i r)=bif decide (i<xs.length)then(dS1 r).bind fun y=>some (xs.set i y)else some xs):=⟨MZ fun x=>by simp [dI1,LP,dI],MZ fun x=>rfl,MZ fun x=>rfl⟩
attribute [go_sem] aIu
def ay5{W O:Type}{f:O->Option W}{z:O}:∀n:Nat,qR f (List.replicate n z)=bif n==0 then some [] else(f z).bind fun y=>some (List.replicate n y)
 |0=>rfl
 |n+1=>by
  simp only[List.replicate_succ,qR,ay5 n];cases f z with
  |none=>rfl
  |some y=>cases n<;>rfl
attribute [go_sem] ay5
def aF7{t:Bool}{z k:Nat}{r xQ:List (List AV)}{o:Option O}{x:O}(aSI:o=some x->Uf r xQ)(h:(bif zC z k r then o else none)=some x):Pg (.kJ t z r) (.kJ false k xQ):=by
 cases hs:zC z k r with
 |false=>simp [hs]at h
 |true=>rw[hs]at h;exact ae0 hs (aSI h)
structure jS where
 parts:List kp
 asL:Int
 asM:Int
 target:kp
def jS.cells(x:jS):List AV:=[.kJ false 1 (mp kS x.parts),.int .i64 x.asL,.int .i64 x.asM,.str (sb x.target)]
theorem jS.kP(x:jS):x.cells=[.kJ false 1 (mp kS x.parts),.int .i64 x.asL,.int .i64 x.asM,.str (sb x.target)]:=rfl
theorem jS.jW(x:jS):x.cells=[.kJ false 1 (mp kS x.parts),.int .i64 x.asL,.int .i64 x.asM,.str (sb x.target)]:=rfl
attribute [irreducible] jS.cells
theorem jS.length(x:jS):x.cells.length=4:=by rw[jS.jW];rfl
def jS.lI(x:jS):x.cells.all AV.lI=true:=by rw[jS.jW];rfl
theorem jS.nb(n:Nat)(x:jS):ua n x.cells:=by
 rw[jS.kP];exact⟨mz (wF n) _,trivial,trivial,trivial,trivial⟩
def jS.of(H:List j6):List AV->Option jS
 |[c0,c1,c2,c3]=>(dL kW H c0).bind fun x0=>(dI .i64 c1).bind fun x1=>(dI .i64 c2).bind fun x2=>(dS c3).bind fun x3=>some (.mk x0 x1 x2 x3)
 |_=>none
def jS.mZ{c0 c1 c2 c3:AV}:jS.of H [c0,c1,c2,c3]=(dL kW H c0).bind fun x0=>(dI .i64 c1).bind fun x1=>(dI .i64 c2).bind fun x2=>(dS c3).bind fun x3=>some (.mk x0 x1 x2 x3):=rfl
def jS.kR(H:List j6)(x:jS):jS.of H [.kJ false 1 (mp kS x.parts),.int .i64 x.asL,.int .i64 x.asM,.str (sb x.target)]=some x:=by
 simp only[jS.mZ,wu,sM,Bh,nN,zC,beq_self_eq_true,fm,jF,dL,xk,WK]
 try (cases x;rfl)
theorem jS.l9(H:List j6)(x:jS):jS.of H x.cells=some x:=by rw[jS.jW];exact jS.kR H x
def jS.nL{x:jS}(h:jS.of H cs=some x):lQ H n cs x.cells:=by
 unfold jS.of at h;split at h
 ·simp only[fg,fi]at h;obtain⟨x0,h0,x1,h1,x2,h2,x3,h3,rfl⟩:=h;rw[jS.kP];exact(lQ.cons (ww h0) (lQ.cons (uv h1) (lQ.cons (uv h2) (lQ.cons (Rs h3) lQ.nil))))
 ·cases h
def jS.kr:Ru jS:=⟨jS.cells,jS.of,fun _ _ _ _ h=>jS.nL h,jS.nb⟩
def jS.row:Row jS:=⟨jS.cells,jS.of [],4,fun _ _ h=>(jS.nL (n:=0) h).nI,jS.nb⟩
def jS.lZ(xs:List jS):qR (jS.of []) (mp jS.cells xs)=some xs:=yE (jS.l9 []) xs
def jS.sF:jS.row.enc=jS.cells/\jS.row.mK=jS.of []/\jS.row.sz=4/\jS.kr.enc=jS.cells/\jS.kr.mK=jS.of:=⟨rfl,rfl,rfl,rfl,rfl⟩
attribute [go_sem] jS.mZ jS.l9 jS.lZ jS.sF
def jS.Pt:(∀(y0:List kp)(y1:Int)(y2:Int)(y3:kp),(jS.mk y0 y1 y2 y3).parts=y0)/\(∀(y0:List kp)(y1:Int)(y2:Int)(y3:kp),(jS.mk y0 y1 y2 y3).asL=y1)/\(∀(y0:List kp)(y1:Int)(y2:Int)(y3:kp),(jS.mk y0 y1 y2 y3).asM=y2)/\(∀(y0:List kp)(y1:Int)(y2:Int)(y3:kp),(jS.mk y0 y1 y2 y3).target=y3):=⟨fun _ _ _ _=>rfl,fun _ _ _ _=>rfl,fun _ _ _ _=>rfl,fun _ _ _ _=>rfl⟩
attribute [go_sem] jS.Pt
def jS.nbs:(∀(n:Nat)(x:jS),Go.Abs.ua n x.cells=True)/\∀(n:Nat)(xs:List jS),Go.Abs.alP n (mp jS.cells xs)=True:=⟨fun n x=>eq_true (jS.nb n x),fun n xs=>eq_true (mz (jS.nb n) xs)⟩
def jS.afa:(∀(Y:Nat->Nat)(x:jS),sO Y x.cells=x.cells)/\∀(Y:Nat->Nat)(xs:List jS),FX Y (mp jS.cells xs)=mp jS.cells xs:=⟨fun Y x=>qI Y _ (jS.nb 0 x),fun Y xs=>uE Y _ (mz (jS.nb 0) xs)⟩
def jS.vw(H:List j6)(x:jS):vwL H x.cells=some (x.cells,[]):=yF H _ (jS.nb 0 x)
attribute [go_sem] jS.vw
def jS.reads:
 (∀x:jS,cellsOf (.agg x.cells)=some x.cells)/\
 (∀x:jS,kq true 4 x.cells=some (.agg x.cells))/\
 (∀x:jS,kq false 1 x.cells=some (.kJ false 1 (mp kS x.parts)))/\
 (∀x:jS,kq false 1 (x.cells.drop 1)=some (.int .i64 x.asL))/\
 (∀x:jS,kq false 1 (x.cells.drop 2)=some (.int .i64 x.asM))/\
 (∀x:jS,kq false 1 (x.cells.drop 3)=some (.str (sb x.target))):=
 ⟨fun x=>by simp only[cellsOf,jS.lI,jN],
  fun x=>p5 (jS.length x),
  fun x=>by rw[jS.jW];rfl,
  fun x=>by rw[jS.jW];rfl,
  fun x=>by rw[jS.jW];rfl,
  fun x=>by rw[jS.jW];rfl⟩
def jS.avM(x:jS)(o:Nat)(xs:List AV):vA x.cells o xs=vA [.kJ false 1 (mp kS x.parts),.int .i64 x.asL,.int .i64 x.asM,.str (sb x.target)] o xs:=by rw[jS.jW]
attribute [go_sem] jS.nbs jS.afa jS.reads jS.length jS.lI
attribute [go_sem low] jS.avM
structure j8 where
 name:kp
 plus:Int
def j8.cells(x:j8):List AV:=[.str (sb x.name),.int .i64 x.plus]
theorem j8.kP(x:j8):x.cells=[.str (sb x.name),.int .i64 x.plus]:=rfl
theorem j8.jW(x:j8):x.cells=[.str (sb x.name),.int .i64 x.plus]:=rfl
attribute [irreducible] j8.cells
theorem j8.length(x:j8):x.cells.length=2:=by rw[j8.jW];rfl
def j8.lI(x:j8):x.cells.all AV.lI=true:=by rw[j8.jW];rfl
theorem j8.nb(n:Nat)(x:j8):ua n x.cells:=by
 rw[j8.kP];exact⟨trivial,trivial,trivial⟩
def j8.of(H:List j6):List AV->Option j8
 |[c0,c1]=>(dS c0).bind fun x0=>(dI .i64 c1).bind fun x1=>some (.mk x0 x1)
 |_=>none
def j8.mZ{c0 c1:AV}:j8.of H [c0,c1]=(dS c0).bind fun x0=>(dI .i64 c1).bind fun x1=>some (.mk x0 x1):=rfl
def j8.kR(H:List j6)(x:j8):j8.of H [.str (sb x.name),.int .i64 x.plus]=some x:=by
 simp only[j8.mZ,wu,sM,Bh,nN,zC,beq_self_eq_true,fm,jF,dL]
 try (cases x;rfl)
theorem j8.l9(H:List j6)(x:j8):j8.of H x.cells=some x:=by rw[j8.jW];exact j8.kR H x
def j8.nL{x:j8}(h:j8.of H cs=some x):lQ H n cs x.cells:=by
 unfold j8.of at h;split at h
 ·simp only[fg,fi]at h;obtain⟨x0,h0,x1,h1,rfl⟩:=h;rw[j8.kP];exact(lQ.cons (Rs h0) (lQ.cons (uv h1) lQ.nil))
 ·cases h
def j8.kr:Ru j8:=⟨j8.cells,j8.of,fun _ _ _ _ h=>j8.nL h,j8.nb⟩
def j8.row:Row j8:=⟨j8.cells,j8.of [],2,fun _ _ h=>(j8.nL (n:=0) h).nI,j8.nb⟩
def j8.lZ(xs:List j8):qR (j8.of []) (mp j8.cells xs)=some xs:=yE (j8.l9 []) xs
def j8.MZ(xs:List j8)(i:Nat)(r:List AV):qR (j8.of []) ((mp j8.cells xs).set i r)=bif decide (i<xs.length)then(j8.of [] r).bind fun y=>some (xs.set i y)else some xs:=Go.Abs.MZ (j8.l9 []) xs i r
attribute [go_sem low] j8.MZ
def j8.sF:j8.row.enc=j8.cells/\j8.row.mK=j8.of []/\j8.row.sz=2/\j8.kr.enc=j8.cells/\j8.kr.mK=j8.of:=⟨rfl,rfl,rfl,rfl,rfl⟩
attribute [go_sem] j8.mZ j8.l9 j8.lZ j8.sF
def j8.Pt:(∀(y0:kp)(y1:Int),(j8.mk y0 y1).name=y0)/\(∀(y0:kp)(y1:Int),(j8.mk y0 y1).plus=y1):=⟨fun _ _=>rfl,fun _ _=>rfl⟩
attribute [go_sem] j8.Pt
def j8.nbs:(∀(n:Nat)(x:j8),Go.Abs.ua n x.cells=True)/\∀(n:Nat)(xs:List j8),Go.Abs.alP n (mp j8.cells xs)=True:=⟨fun n x=>eq_true (j8.nb n x),fun n xs=>eq_true (mz (j8.nb n) xs)⟩
def j8.afa:(∀(Y:Nat->Nat)(x:j8),sO Y x.cells=x.cells)/\∀(Y:Nat->Nat)(xs:List j8),FX Y (mp j8.cells xs)=mp j8.cells xs:=⟨fun Y x=>qI Y _ (j8.nb 0 x),fun Y xs=>uE Y _ (mz (j8.nb 0) xs)⟩
def j8.reads:
 (∀x:j8,cellsOf (.agg x.cells)=some x.cells)/\
 (∀x:j8,kq true 2 x.cells=some (.agg x.cells))/\
 (∀x:j8,kq false 1 x.cells=some (.str (sb x.name)))/\
 (∀x:j8,kq false 1 (x.cells.drop 1)=some (.int .i64 x.plus)):=
 ⟨fun x=>by simp only[cellsOf,j8.lI,jN],
  fun x=>p5 (j8.length x),
  fun x=>by rw[j8.jW];rfl,
  fun x=>by rw[j8.jW];rfl⟩
def j8.avM(x:j8)(o:Nat)(xs:List AV):vA x.cells o xs=vA [.str (sb x.name),.int .i64 x.plus] o xs:=by rw[j8.jW]
attribute [go_sem] j8.nbs j8.afa j8.reads j8.length j8.lI
attribute [go_sem low] j8.avM
structure jZ where
 arz:Bool
 CZ:List j8
def jZ.cells(x:jZ):List AV:=[.bool x.arz,.kJ false 2 (mp j8.cells x.CZ)]
theorem jZ.kP(x:jZ):x.cells=[.bool x.arz,.kJ false 2 (mp j8.cells x.CZ)]:=rfl
theorem jZ.jW(x:jZ):x.cells=[.bool x.arz,.kJ false 2 (mp j8.cells x.CZ)]:=rfl
attribute [irreducible] jZ.cells
theorem jZ.length(x:jZ):x.cells.length=2:=by rw[jZ.jW];rfl
def jZ.lI(x:jZ):x.cells.all AV.lI=true:=by rw[jZ.jW];rfl
theorem jZ.nb(n:Nat)(x:jZ):ua n x.cells:=by
 rw[jZ.kP];exact⟨trivial,mz (j8.nb n) _,trivial⟩
def jZ.of(H:List j6):List AV->Option jZ
 |[c0,c1]=>(dB c0).bind fun x0=>(dL j8.row H c1).bind fun x1=>some (.mk x0 x1)
 |_=>none
def jZ.mZ{c0 c1:AV}:jZ.of H [c0,c1]=(dB c0).bind fun x0=>(dL j8.row H c1).bind fun x1=>some (.mk x0 x1):=rfl
def jZ.kR(H:List j6)(x:jZ):jZ.of H [.bool x.arz,.kJ false 2 (mp j8.cells x.CZ)]=some x:=by
 simp only[jZ.mZ,wu,sM,Bh,nN,zC,beq_self_eq_true,fm,jF,dL,j8.lZ,j8.row]
 try (cases x;rfl)
theorem jZ.l9(H:List j6)(x:jZ):jZ.of H x.cells=some x:=by rw[jZ.jW];exact jZ.kR H x
def jZ.nL{x:jZ}(h:jZ.of H cs=some x):lQ H n cs x.cells:=by
 unfold jZ.of at h;split at h
 ·simp only[fg,fi]at h;obtain⟨x0,h0,x1,h1,rfl⟩:=h;rw[jZ.kP];exact(lQ.cons (asy h0) (lQ.cons (ww h1) lQ.nil))
 ·cases h
def jZ.kr:Ru jZ:=⟨jZ.cells,jZ.of,fun _ _ _ _ h=>jZ.nL h,jZ.nb⟩
def jZ.row:Row jZ:=⟨jZ.cells,jZ.of [],2,fun _ _ h=>(jZ.nL (n:=0) h).nI,jZ.nb⟩
def jZ.lZ(xs:List jZ):qR (jZ.of []) (mp jZ.cells xs)=some xs:=yE (jZ.l9 []) xs
def jZ.MZ(xs:List jZ)(i:Nat)(r:List AV):qR (jZ.of []) ((mp jZ.cells xs).set i r)=bif decide (i<xs.length)then(jZ.of [] r).bind fun y=>some (xs.set i y)else some xs:=Go.Abs.MZ (jZ.l9 []) xs i r
attribute [go_sem low] jZ.MZ
def jZ.sF:jZ.row.enc=jZ.cells/\jZ.row.mK=jZ.of []/\jZ.row.sz=2/\jZ.kr.enc=jZ.cells/\jZ.kr.mK=jZ.of:=⟨rfl,rfl,rfl,rfl,rfl⟩
attribute [go_sem] jZ.mZ jZ.l9 jZ.lZ jZ.sF
def jZ.Pt:(∀(y0:Bool)(y1:List j8),(jZ.mk y0 y1).arz=y0)/\(∀(y0:Bool)(y1:List j8),(jZ.mk y0 y1).CZ=y1):=⟨fun _ _=>rfl,fun _ _=>rfl⟩
attribute [go_sem] jZ.Pt
def jZ.nbs:(∀(n:Nat)(x:jZ),Go.Abs.ua n x.cells=True)/\∀(n:Nat)(xs:List jZ),Go.Abs.alP n (mp jZ.cells xs)=True:=⟨fun n x=>eq_true (jZ.nb n x),fun n xs=>eq_true (mz (jZ.nb n) xs)⟩
def jZ.afa:(∀(Y:Nat->Nat)(x:jZ),sO Y x.cells=x.cells)/\∀(Y:Nat->Nat)(xs:List jZ),FX Y (mp jZ.cells xs)=mp jZ.cells xs:=⟨fun Y x=>qI Y _ (jZ.nb 0 x),fun Y xs=>uE Y _ (mz (jZ.nb 0) xs)⟩
def jZ.vw(H:List j6)(x:jZ):vwL H x.cells=some (x.cells,[]):=yF H _ (jZ.nb 0 x)
attribute [go_sem] jZ.vw
def jZ.reads:
 (∀x:jZ,cellsOf (.agg x.cells)=some x.cells)/\
 (∀x:jZ,kq true 2 x.cells=some (.agg x.cells))/\
 (∀x:jZ,kq false 1 x.cells=some (.bool x.arz))/\
 (∀x:jZ,kq false 1 (x.cells.drop 1)=some (.kJ false 2 (mp j8.cells x.CZ))):=
 ⟨fun x=>by simp only[cellsOf,jZ.lI,jN],
  fun x=>p5 (jZ.length x),
  fun x=>by rw[jZ.jW];rfl,
  fun x=>by rw[jZ.jW];rfl⟩
def jZ.avM(x:jZ)(o:Nat)(xs:List AV):vA x.cells o xs=vA [.bool x.arz,.kJ false 2 (mp j8.cells x.CZ)] o xs:=by rw[jZ.jW]
attribute [go_sem] jZ.nbs jZ.afa jZ.reads jZ.length jZ.lI
attribute [go_sem low] jZ.avM
inductive Syntax where
 |mk (kind:Int) (text:kp) (num:Int) (mF:List kp) (kC:List jZ) (lr:List Syntax) (Pu:Int) (to:Int)
def Syntax.kind:Syntax->Int|.mk x _ _ _ _ _ _ _=>x
def Syntax.text:Syntax->kp|.mk _ x _ _ _ _ _ _=>x
def Syntax.num:Syntax->Int|.mk _ _ x _ _ _ _ _=>x
def Syntax.mF:Syntax->List kp|.mk _ _ _ x _ _ _ _=>x
def Syntax.kC:Syntax->List jZ|.mk _ _ _ _ x _ _ _=>x
def Syntax.lr:Syntax->List Syntax|.mk _ _ _ _ _ x _ _=>x
def Syntax.Pu:Syntax->Int|.mk _ _ _ _ _ _ x _=>x
def Syntax.to:Syntax->Int|.mk _ _ _ _ _ _ _ x=>x
mutual
def Syntax.cells:Syntax->List AV
 |.mk kind text num mF kC lr Pu to=>[.int .i64 kind,.str (sb text),.int .i64 num,.kJ false 1 (mp kS mF),.kJ false 2 (mp jZ.cells kC),.kJ false 8 (Syntax.M1 lr),.int .i64 Pu,.int .i64 to]
def Syntax.M1:List Syntax->List (List AV)
 |[]=>[]
 |t::ts=>t.cells::Syntax.M1 ts
end
theorem Syntax.C0:∀ts:List Syntax,Syntax.M1 ts=mp Syntax.cells ts
 |[]=>by rw[qj];rfl
 |t::ts=>by rw[Syntax.M1,Syntax.C0 ts,qj,qj];rfl
theorem Syntax.kP(x:Syntax):x.cells=[.int .i64 x.kind,.str (sb x.text),.int .i64 x.num,.kJ false 1 (mp kS x.mF),.kJ false 2 (mp jZ.cells x.kC),.kJ false 8 (mp Syntax.cells x.lr),.int .i64 x.Pu,.int .i64 x.to]:=by
 cases x;simp only[Syntax.cells,Syntax.C0];rfl
theorem Syntax.jW(x:Syntax):x.cells=[.int .i64 x.kind,.str (sb x.text),.int .i64 x.num,.kJ false 1 (mp kS x.mF),.kJ false 2 (mp jZ.cells x.kC),.kJ false 8 (mp Syntax.cells x.lr),.int .i64 x.Pu,.int .i64 x.to]:=by
 cases x;simp only[Syntax.cells,Syntax.C0,fp,fq,fw];rfl
attribute [irreducible] Syntax.cells
theorem Syntax.length(x:Syntax):x.cells.length=8:=by rw[Syntax.jW];rfl
def Syntax.lI(x:Syntax):x.cells.all AV.lI=true:=by rw[Syntax.jW];rfl
mutual
theorem Syntax.nb(n:Nat):∀x:Syntax,ua n x.cells
 | .mk kind text num mF kC lr Pu to=>by
   rw[Syntax.kP];exact⟨trivial,trivial,trivial,mz (wF n) _,mz (jZ.nb n) _,Syntax.alP n lr,trivial,trivial,trivial⟩
theorem Syntax.alP(n:Nat):∀ts:List Syntax,alP n (mp Syntax.cells ts)
 |[]=>by rw[qj];trivial
 |t::ts=>by have:=Syntax.alP n ts;rw[qj]at this ⊢;exact⟨Syntax.nb n t,this⟩
end
mutual
def Syntax.of0:List AV->Option Syntax
 |[c0,c1,c2,c3,c4,.kJ _ z5 r5,c6,c7]=>(dI .i64 c0).bind fun x0=>(dS c1).bind fun x1=>(dI .i64 c2).bind fun x2=>(dL kW [] c3).bind fun x3=>(dL jZ.row [] c4).bind fun x4=>(bif zC z5 8 r5 then Syntax.ofR r5 else none).bind fun x5=>(dI .i64 c6).bind fun x6=>(dI .i64 c7).bind fun x7=>some (.mk x0 x1 x2 x3 x4 x5 x6 x7)
 |_=>none
def Syntax.ofR:List (List AV)->Option (List Syntax)
 |[]=>some []
 |r::rs=>(Syntax.of0 r).bind fun x=>(Syntax.ofR rs).bind fun xs=>some (x::xs)
end
def Syntax.avN:∀rs,Syntax.ofR rs=qR Syntax.of0 rs
 |[]=>by simp only[Syntax.ofR,qR]
 |r::rs=>by simp only[Syntax.ofR,qR,Syntax.avN rs]
mutual
def Syntax.yI:∀x:Syntax,Syntax.of0 x.cells=some x
 | .mk kind text num mF kC lr Pu to=>by
   rw[Syntax.jW];show Syntax.of0 [.int .i64 kind,.str (sb text),.int .i64 num,.kJ false 1 (mp kS mF),.kJ false 2 (mp jZ.cells kC),.kJ false 8 (mp Syntax.cells lr),.int .i64 Pu,.int .i64 to]=_;simp only[Syntax.of0,wu,sM,Bh,nN,zC,beq_self_eq_true,fm,jF,dL,Syntax.LS lr,jZ.lZ,jZ.row,xk,WK]
def Syntax.LS:∀xs:List Syntax,Syntax.ofR (mp Syntax.cells xs)=some xs
 |[]=>by rw[qj];simp only[fy,Syntax.ofR]
 |x::xs=>by have h:=Syntax.LS xs;rw[qj]at h ⊢;simp only[fx,Syntax.ofR,Syntax.yI x,h,nN]
end
mutual
def Syntax.WT:∀(x:Syntax)(r:List AV),Syntax.of0 r=some x->vK r x.cells
 | .mk kind text num mF kC lr Pu to,r,h=>by
   unfold Syntax.of0 at h;split at h
   ·simp only[fg,fi,Syntax.mk.injEq]at h;obtain⟨x0,h0,x1,h1,x2,h2,x3,h3,x4,h4,x5,h5,x6,h6,x7,h7,e0,e1,e2,e3,e4,e5,e6,e7⟩:=h;rw[e0]at h0;rw[e1]at h1;rw[e2]at h2;rw[e3]at h3;rw[e4]at h4;rw[e5]at h5;rw[e6]at h6;rw[e7]at h7;rw[Syntax.kP];exact(vK.cons ((uv (H:=[]) (n:=0) h0).nI) (vK.cons ((Rs (H:=[]) (n:=0) h1).nI) (vK.cons ((uv (H:=[]) (n:=0) h2).nI) (vK.cons ((ww (H:=[]) (n:=0) h3).nI) (vK.cons ((ww (H:=[]) (n:=0) h4).nI) (vK.cons (aF7 (Syntax.aiS lr _) h5) (vK.cons ((uv (H:=[]) (n:=0) h6).nI) (vK.cons ((uv (H:=[]) (n:=0) h7).nI) vK.nil))))))))
   ·cases h
def Syntax.aiS:∀(xs:List Syntax)(rs:List (List AV)),Syntax.ofR rs=some xs->Uf rs (mp Syntax.cells xs)
 |[],rs,h=>by
  cases rs with
  |nil=>rw[qj];exact Uf.nil
  |cons r rs=>
   simp only[Syntax.ofR,fg,fi]at h;obtain⟨_,_,_,_,h⟩:=h;cases h
 |x::xs,rs,h=>by
  cases rs with
  |nil=>simp only[Syntax.ofR,fi]at h;cases h
  |cons r rs=>
   simp only[Syntax.ofR,fg,fi,List.cons.injEq]at h;obtain⟨_,hx,_,hys,rfl,rfl⟩:=h;have h2:=Syntax.aiS _ rs hys;rw[qj]at h2 ⊢;exact Uf.cons (Syntax.WT _ r hx).aHX h2
end
def Syntax.row:Row Syntax:=⟨Syntax.cells,Syntax.of0,8,fun r x h=>Syntax.WT x r h,Syntax.nb⟩
def Syntax.lZ(xs:List Syntax):qR Syntax.of0 (mp Syntax.cells xs)=some xs:=yE Syntax.yI xs
def Syntax.of(H:List j6):List AV->Option Syntax
 |[c0,c1,c2,c3,c4,c5,c6,c7]=>(dI .i64 c0).bind fun x0=>(dS c1).bind fun x1=>(dI .i64 c2).bind fun x2=>(dL kW H c3).bind fun x3=>(dL jZ.row H c4).bind fun x4=>(dL Syntax.row H c5).bind fun x5=>(dI .i64 c6).bind fun x6=>(dI .i64 c7).bind fun x7=>some (.mk x0 x1 x2 x3 x4 x5 x6 x7)
 |_=>none
def Syntax.mZ {c0 c1 c2 c3 c4 c5 c6:AV}:Syntax.of H [c0,c1,c2,c3,c4,c5,c6,c7]=(dI .i64 c0).bind fun x0=>(dS c1).bind fun x1=>(dI .i64 c2).bind fun x2=>(dL kW H c3).bind fun x3=>(dL jZ.row H c4).bind fun x4=>(dL Syntax.row H c5).bind fun x5=>(dI .i64 c6).bind fun x6=>(dI .i64 c7).bind fun x7=>some (.mk x0 x1 x2 x3 x4 x5 x6 x7):=rfl
def Syntax.kR(H:List j6)(x:Syntax):Syntax.of H [.int .i64 x.kind,.str (sb x.text),.int .i64 x.num,.kJ false 1 (mp kS x.mF),.kJ false 2 (mp jZ.cells x.kC),.kJ false 8 (mp Syntax.cells x.lr),.int .i64 x.Pu,.int .i64 x.to]=some x:=by
 simp only[Syntax.mZ,wu,sM,Bh,nN,zC,beq_self_eq_true,fm,jF,dL,jZ.lZ,jZ.row,Syntax.lZ,Syntax.row,xk,WK]
 try (cases x;rfl)
theorem Syntax.l9(H:List j6)(x:Syntax):Syntax.of H x.cells=some x:=by rw[Syntax.jW];exact Syntax.kR H x
def Syntax.nL{x:Syntax}(h:Syntax.of H cs=some x):lQ H n cs x.cells:=by
 unfold Syntax.of at h;split at h
 ·simp only[fg,fi]at h;obtain⟨x0,h0,x1,h1,x2,h2,x3,h3,x4,h4,x5,h5,x6,h6,x7,h7,rfl⟩:=h;rw[Syntax.kP];exact(lQ.cons (uv h0) (lQ.cons (Rs h1) (lQ.cons (uv h2) (lQ.cons (ww h3) (lQ.cons (ww h4) (lQ.cons (ww h5) (lQ.cons (uv h6) (lQ.cons (uv h7) lQ.nil))))))))
 ·cases h
def Syntax.kr:Ru Syntax:=⟨Syntax.cells,Syntax.of,fun _ _ _ _ h=>Syntax.nL h,Syntax.nb⟩
def Syntax.sF:Syntax.row.enc=Syntax.cells/\Syntax.row.mK=Syntax.of0/\Syntax.row.sz=8/\Syntax.kr.enc=Syntax.cells/\Syntax.kr.mK=Syntax.of:=⟨rfl,rfl,rfl,rfl,rfl⟩
def Syntax.eta(x:Syntax):Syntax.mk x.kind x.text x.num x.mF x.kC x.lr x.Pu x.to=x:=by cases x;rfl
attribute [go_sem] Syntax.mZ Syntax.l9 Syntax.lZ Syntax.sF Syntax.eta Syntax.of0 Syntax.yI Syntax.avN
def Syntax.Pt:(∀(y0:Int)(y1:kp)(y2:Int)(y3:List kp)(y4:List jZ)(y5:List Syntax)(y6:Int)(y7:Int),(Syntax.mk y0 y1 y2 y3 y4 y5 y6 y7).kind=y0)/\(∀(y0:Int)(y1:kp)(y2:Int)(y3:List kp)(y4:List jZ)(y5:List Syntax)(y6:Int)(y7:Int),(Syntax.mk y0 y1 y2 y3 y4 y5 y6 y7).text=y1)/\(∀(y0:Int)(y1:kp)(y2:Int)(y3:List kp)(y4:List jZ)(y5:List Syntax)(y6:Int)(y7:Int),(Syntax.mk y0 y1 y2 y3 y4 y5 y6 y7).num=y2)/\(∀(y0:Int)(y1:kp)(y2:Int)(y3:List kp)(y4:List jZ)(y5:List Syntax)(y6:Int)(y7:Int),(Syntax.mk y0 y1 y2 y3 y4 y5 y6 y7).mF=y3)/\(∀(y0:Int)(y1:kp)(y2:Int)(y3:List kp)(y4:List jZ)(y5:List Syntax)(y6:Int)(y7:Int),(Syntax.mk y0 y1 y2 y3 y4 y5 y6 y7).kC=y4)/\(∀(y0:Int)(y1:kp)(y2:Int)(y3:List kp)(y4:List jZ)(y5:List Syntax)(y6:Int)(y7:Int),(Syntax.mk y0 y1 y2 y3 y4 y5 y6 y7).lr=y5)/\(∀(y0:Int)(y1:kp)(y2:Int)(y3:List kp)(y4:List jZ)(y5:List Syntax)(y6:Int)(y7:Int),(Syntax.mk y0 y1 y2 y3 y4 y5 y6 y7).Pu=y6)/\(∀(y0:Int)(y1:kp)(y2:Int)(y3:List kp)(y4:List jZ)(y5:List Syntax)(y6:Int)(y7:Int),(Syntax.mk y0 y1 y2 y3 y4 y5 y6 y7).to=y7):=⟨fun _ _ _ _ _ _ _ _=>rfl,fun _ _ _ _ _ _ _ _=>rfl,fun _ _ _ _ _ _ _ _=>rfl,fun _ _ _ _ _ _ _ _=>rfl,fun _ _ _ _ _ _ _ _=>rfl,fun _ _ _ _ _ _ _ _=>rfl,fun _ _ _ _ _ _ _ _=>rfl,fun _ _ _ _ _ _ _ _=>rfl⟩
attribute [go_sem] Syntax.Pt
def Syntax.nbs:(∀(n:Nat)(x:Syntax),Go.Abs.ua n x.cells=True)/\∀(n:Nat)(xs:List Syntax),Go.Abs.alP n (mp Syntax.cells xs)=True:=⟨fun n x=>eq_true (Syntax.nb n x),fun n xs=>eq_true (mz (Syntax.nb n) xs)⟩
def Syntax.afa:(∀(Y:Nat->Nat)(x:Syntax),sO Y x.cells=x.cells)/\∀(Y:Nat->Nat)(xs:List Syntax),FX Y (mp Syntax.cells xs)=mp Syntax.cells xs:=⟨fun Y x=>qI Y _ (Syntax.nb 0 x),fun Y xs=>uE Y _ (mz (Syntax.nb 0) xs)⟩
def Syntax.vw(H:List j6)(x:Syntax):vwL H x.cells=some (x.cells,[]):=yF H _ (Syntax.nb 0 x)
attribute [go_sem] Syntax.vw
theorem Syntax.frz(low:Nat)(H:List j6)(x:Syntax):as8 low H x.cells=x.cells:=Lm low H _ (Syntax.nb 0 x)
def Syntax.rpv(l:Nat)(ds:List AV)(x:Syntax):x.cells.map (rpV l ds)=x.cells:=WN _ (Syntax.nb 0 x)
attribute [go_sem] Syntax.rpv
def Syntax.tk:(∀x:Syntax,List.take 8 x.cells=x.cells)/\∀x:Syntax,List.drop 8 x.cells=[]:=⟨fun x=>by rw[Syntax.jW];rfl,fun x=>by rw[Syntax.jW];rfl⟩
attribute [go_sem] Syntax.tk
def Syntax.reads:
 (∀x:Syntax,cellsOf (.agg x.cells)=some x.cells)/\
 (∀x:Syntax,kq true 8 x.cells=some (.agg x.cells))/\
 (∀x:Syntax,kq false 1 x.cells=some (.int .i64 x.kind))/\
 (∀x:Syntax,kq false 1 (x.cells.drop 1)=some (.str (sb x.text)))/\
 (∀x:Syntax,kq false 1 (x.cells.drop 2)=some (.int .i64 x.num))/\
 (∀x:Syntax,kq false 1 (x.cells.drop 3)=some (.kJ false 1 (mp kS x.mF)))/\
 (∀x:Syntax,kq false 1 (x.cells.drop 4)=some (.kJ false 2 (mp jZ.cells x.kC)))/\
 (∀x:Syntax,kq false 1 (x.cells.drop 5)=some (.kJ false 8 (mp Syntax.cells x.lr)))/\
 (∀x:Syntax,kq false 1 (x.cells.drop 6)=some (.int .i64 x.Pu))/\
 (∀x:Syntax,kq false 1 (x.cells.drop 7)=some (.int .i64 x.to)):=
 ⟨fun x=>by simp only[cellsOf,Syntax.lI,jN],
  fun x=>p5 (Syntax.length x),
  fun x=>by rw[Syntax.jW];rfl,
  fun x=>by rw[Syntax.jW];rfl,
  fun x=>by rw[Syntax.jW];rfl,
  fun x=>by rw[Syntax.jW];rfl,
  fun x=>by rw[Syntax.jW];rfl,
  fun x=>by rw[Syntax.jW];rfl,
  fun x=>by rw[Syntax.jW];rfl,
  fun x=>by rw[Syntax.jW];rfl⟩
def Syntax.avM(x:Syntax)(o:Nat)(xs:List AV):vA x.cells o xs=vA [.int .i64 x.kind,.str (sb x.text),.int .i64 x.num,.kJ false 1 (mp kS x.mF),.kJ false 2 (mp jZ.cells x.kC),.kJ false 8 (mp Syntax.cells x.lr),.int .i64 x.Pu,.int .i64 x.to] o xs:=by rw[Syntax.jW]
def Syntax.cns(x:Syntax)(c:AV):c::x.cells=[c,.int .i64 x.kind,.str (sb x.text),.int .i64 x.num,.kJ false 1 (mp kS x.mF),.kJ false 2 (mp jZ.cells x.kC),.kJ false 8 (mp Syntax.cells x.lr),.int .i64 x.Pu,.int .i64 x.to]:=by rw[Syntax.jW]
attribute [go_sem] Syntax.cns Syntax.nbs Syntax.afa Syntax.frz Syntax.reads Syntax.length Syntax.lI
attribute [go_sem low] Syntax.avM
structure kD where
 index:Int
 plus:Int
def kD.cells(x:kD):List AV:=[.int .i64 x.index,.int .i64 x.plus]
theorem kD.kP(x:kD):x.cells=[.int .i64 x.index,.int .i64 x.plus]:=rfl
theorem kD.jW(x:kD):x.cells=[.int .i64 x.index,.int .i64 x.plus]:=rfl
attribute [irreducible] kD.cells
theorem kD.length(x:kD):x.cells.length=2:=by rw[kD.jW];rfl
def kD.lI(x:kD):x.cells.all AV.lI=true:=by rw[kD.jW];rfl
theorem kD.nb(n:Nat)(x:kD):ua n x.cells:=by
 rw[kD.kP];exact⟨trivial,trivial,trivial⟩
def kD.of(H:List j6):List AV->Option kD
 |[c0,c1]=>(dI .i64 c0).bind fun x0=>(dI .i64 c1).bind fun x1=>some (.mk x0 x1)
 |_=>none
def kD.mZ{c0 c1:AV}:kD.of H [c0,c1]=(dI .i64 c0).bind fun x0=>(dI .i64 c1).bind fun x1=>some (.mk x0 x1):=rfl
def kD.kR(H:List j6)(x:kD):kD.of H [.int .i64 x.index,.int .i64 x.plus]=some x:=by
 simp only[kD.mZ,wu,sM,Bh,nN,zC,beq_self_eq_true,fm,jF,dL]
 try (cases x;rfl)
theorem kD.l9(H:List j6)(x:kD):kD.of H x.cells=some x:=by rw[kD.jW];exact kD.kR H x
def kD.nL{x:kD}(h:kD.of H cs=some x):lQ H n cs x.cells:=by
 unfold kD.of at h;split at h
 ·simp only[fg,fi]at h;obtain⟨x0,h0,x1,h1,rfl⟩:=h;rw[kD.kP];exact(lQ.cons (uv h0) (lQ.cons (uv h1) lQ.nil))
 ·cases h
def kD.kr:Ru kD:=⟨kD.cells,kD.of,fun _ _ _ _ h=>kD.nL h,kD.nb⟩
def kD.row:Row kD:=⟨kD.cells,kD.of [],2,fun _ _ h=>(kD.nL (n:=0) h).nI,kD.nb⟩
def kD.lZ(xs:List kD):qR (kD.of []) (mp kD.cells xs)=some xs:=yE (kD.l9 []) xs
def kD.sF:kD.row.enc=kD.cells/\kD.row.mK=kD.of []/\kD.row.sz=2/\kD.kr.enc=kD.cells/\kD.kr.mK=kD.of:=⟨rfl,rfl,rfl,rfl,rfl⟩
attribute [go_sem] kD.mZ kD.l9 kD.lZ kD.sF
def kD.Pt:(∀(y0:Int)(y1:Int),(kD.mk y0 y1).index=y0)/\(∀(y0:Int)(y1:Int),(kD.mk y0 y1).plus=y1):=⟨fun _ _=>rfl,fun _ _=>rfl⟩
attribute [go_sem] kD.Pt
def kD.reads:
 (∀x:kD,cellsOf (.agg x.cells)=some x.cells)/\
 (∀x:kD,kq true 2 x.cells=some (.agg x.cells))/\
 (∀x:kD,kq false 1 x.cells=some (.int .i64 x.index))/\
 (∀x:kD,kq false 1 (x.cells.drop 1)=some (.int .i64 x.plus)):=
 ⟨fun x=>by simp only[cellsOf,kD.lI,jN],
  fun x=>p5 (kD.length x),
  fun x=>by rw[kD.jW];rfl,
  fun x=>by rw[kD.jW];rfl⟩
attribute [go_sem] kD.reads kD.length kD.lI
structure kE where
 const:Int
 vars:List kD
def kE.cells(x:kE):List AV:=[.int .i64 x.const,.kJ false 2 (mp kD.cells x.vars)]
theorem kE.kP(x:kE):x.cells=[.int .i64 x.const,.kJ false 2 (mp kD.cells x.vars)]:=rfl
theorem kE.jW(x:kE):x.cells=[.int .i64 x.const,.kJ false 2 (mp kD.cells x.vars)]:=rfl
attribute [irreducible] kE.cells
theorem kE.length(x:kE):x.cells.length=2:=by rw[kE.jW];rfl
def kE.lI(x:kE):x.cells.all AV.lI=true:=by rw[kE.jW];rfl
theorem kE.nb(n:Nat)(x:kE):ua n x.cells:=by
 rw[kE.kP];exact⟨trivial,mz (kD.nb n) _,trivial⟩
def kE.of(H:List j6):List AV->Option kE
 |[c0,c1]=>(dI .i64 c0).bind fun x0=>(dL kD.row H c1).bind fun x1=>some (.mk x0 x1)
 |_=>none
def kE.mZ{c0 c1:AV}:kE.of H [c0,c1]=(dI .i64 c0).bind fun x0=>(dL kD.row H c1).bind fun x1=>some (.mk x0 x1):=rfl
def kE.kR(H:List j6)(x:kE):kE.of H [.int .i64 x.const,.kJ false 2 (mp kD.cells x.vars)]=some x:=by
 simp only[kE.mZ,wu,sM,Bh,nN,zC,beq_self_eq_true,fm,jF,dL,kD.lZ,kD.row]
 try (cases x;rfl)
theorem kE.l9(H:List j6)(x:kE):kE.of H x.cells=some x:=by rw[kE.jW];exact kE.kR H x
def kE.nL{x:kE}(h:kE.of H cs=some x):lQ H n cs x.cells:=by
 unfold kE.of at h;split at h
 ·simp only[fg,fi]at h;obtain⟨x0,h0,x1,h1,rfl⟩:=h;rw[kE.kP];exact(lQ.cons (uv h0) (lQ.cons (ww h1) lQ.nil))
 ·cases h
def kE.kr:Ru kE:=⟨kE.cells,kE.of,fun _ _ _ _ h=>kE.nL h,kE.nb⟩
def kE.row:Row kE:=⟨kE.cells,kE.of [],2,fun _ _ h=>(kE.nL (n:=0) h).nI,kE.nb⟩
def kE.lZ(xs:List kE):qR (kE.of []) (mp kE.cells xs)=some xs:=yE (kE.l9 []) xs
def kE.sF:kE.row.enc=kE.cells/\kE.row.mK=kE.of []/\kE.row.sz=2/\kE.kr.enc=kE.cells/\kE.kr.mK=kE.of:=⟨rfl,rfl,rfl,rfl,rfl⟩
attribute [go_sem] kE.mZ kE.l9 kE.lZ kE.sF
def kE.Pt:(∀(y0:Int)(y1:List kD),(kE.mk y0 y1).const=y0)/\(∀(y0:Int)(y1:List kD),(kE.mk y0 y1).vars=y1):=⟨fun _ _=>rfl,fun _ _=>rfl⟩
attribute [go_sem] kE.Pt
def kE.nbs:(∀(n:Nat)(x:kE),Go.Abs.ua n x.cells=True)/\∀(n:Nat)(xs:List kE),Go.Abs.alP n (mp kE.cells xs)=True:=⟨fun n x=>eq_true (kE.nb n x),fun n xs=>eq_true (mz (kE.nb n) xs)⟩
def kE.vw(H:List j6)(x:kE):vwL H x.cells=some (x.cells,[]):=yF H _ (kE.nb 0 x)
attribute [go_sem] kE.vw
def kE.reads:
 (∀x:kE,cellsOf (.agg x.cells)=some x.cells)/\
 (∀x:kE,kq true 2 x.cells=some (.agg x.cells))/\
 (∀x:kE,kq false 1 x.cells=some (.int .i64 x.const))/\
 (∀x:kE,kq false 1 (x.cells.drop 1)=some (.kJ false 2 (mp kD.cells x.vars))):=
 ⟨fun x=>by simp only[cellsOf,kE.lI,jN],
  fun x=>p5 (kE.length x),
  fun x=>by rw[kE.jW];rfl,
  fun x=>by rw[kE.jW];rfl⟩
attribute [go_sem] kE.nbs kE.reads kE.length kE.lI
inductive jX where
 |mk (kind:Int) (index:Int) (name:kp) (kC:List kE) (lr:List jX)
def jX.kind:jX->Int|.mk x _ _ _ _=>x
def jX.index:jX->Int|.mk _ x _ _ _=>x
def jX.name:jX->kp|.mk _ _ x _ _=>x
def jX.kC:jX->List kE|.mk _ _ _ x _=>x
def jX.lr:jX->List jX|.mk _ _ _ _ x=>x
mutual
def jX.cells:jX->List AV
 |.mk kind index name kC lr=>[.int .i64 kind,.int .i64 index,.str (sb name),.kJ false 2 (mp kE.cells kC),.kJ false 5 (jX.M1 lr)]
def jX.M1:List jX->List (List AV)
 |[]=>[]
 |t::ts=>t.cells::jX.M1 ts
end
theorem jX.C0:∀ts:List jX,jX.M1 ts=mp jX.cells ts
 |[]=>by rw[qj];rfl
 |t::ts=>by rw[jX.M1,jX.C0 ts,qj,qj];rfl
theorem jX.kP(x:jX):x.cells=[.int .i64 x.kind,.int .i64 x.index,.str (sb x.name),.kJ false 2 (mp kE.cells x.kC),.kJ false 5 (mp jX.cells x.lr)]:=by
 cases x;simp only[jX.cells,jX.C0];rfl
theorem jX.jW(x:jX):x.cells=[.int .i64 x.kind,.int .i64 x.index,.str (sb x.name),.kJ false 2 (mp kE.cells x.kC),.kJ false 5 (mp jX.cells x.lr)]:=by
 cases x;simp only[jX.cells,jX.C0,fp,fq,fw];rfl
attribute [irreducible] jX.cells
theorem jX.length(x:jX):x.cells.length=5:=by rw[jX.jW];rfl
def jX.lI(x:jX):x.cells.all AV.lI=true:=by rw[jX.jW];rfl
mutual
theorem jX.nb(n:Nat):∀x:jX,ua n x.cells
 | .mk kind index name kC lr=>by
   rw[jX.kP];exact⟨trivial,trivial,trivial,mz (kE.nb n) _,jX.alP n lr,trivial⟩
theorem jX.alP(n:Nat):∀ts:List jX,alP n (mp jX.cells ts)
 |[]=>by rw[qj];trivial
 |t::ts=>by have:=jX.alP n ts;rw[qj]at this ⊢;exact⟨jX.nb n t,this⟩
end
mutual
def jX.of0:List AV->Option jX
 |[c0,c1,c2,c3,.kJ _ z4 r4]=>(dI .i64 c0).bind fun x0=>(dI .i64 c1).bind fun x1=>(dS c2).bind fun x2=>(dL kE.row [] c3).bind fun x3=>(bif zC z4 5 r4 then jX.ofR r4 else none).bind fun x4=>some (.mk x0 x1 x2 x3 x4)
 |_=>none
def jX.ofR:List (List AV)->Option (List jX)
 |[]=>some []
 |r::rs=>(jX.of0 r).bind fun x=>(jX.ofR rs).bind fun xs=>some (x::xs)
end
def jX.avN:∀rs,jX.ofR rs=qR jX.of0 rs
 |[]=>by simp only[jX.ofR,qR]
 |r::rs=>by simp only[jX.ofR,qR,jX.avN rs]
mutual
def jX.yI:∀x:jX,jX.of0 x.cells=some x
 | .mk kind index name kC lr=>by
   rw[jX.jW];show jX.of0 [.int .i64 kind,.int .i64 index,.str (sb name),.kJ false 2 (mp kE.cells kC),.kJ false 5 (mp jX.cells lr)]=_;simp only[jX.of0,wu,sM,Bh,nN,zC,beq_self_eq_true,fm,jF,dL,jX.LS lr,kE.lZ,kE.row]
def jX.LS:∀xs:List jX,jX.ofR (mp jX.cells xs)=some xs
 |[]=>by rw[qj];simp only[fy,jX.ofR]
 |x::xs=>by have h:=jX.LS xs;rw[qj]at h ⊢;simp only[fx,jX.ofR,jX.yI x,h,nN]
end
mutual
def jX.WT:∀(x:jX)(r:List AV),jX.of0 r=some x->vK r x.cells
 | .mk kind index name kC lr,r,h=>by
   unfold jX.of0 at h;split at h
   ·simp only[fg,fi,jX.mk.injEq]at h;obtain⟨x0,h0,x1,h1,x2,h2,x3,h3,x4,h4,e0,e1,e2,e3,e4⟩:=h;rw[e0]at h0;rw[e1]at h1;rw[e2]at h2;rw[e3]at h3;rw[e4]at h4;rw[jX.kP];exact(vK.cons ((uv (H:=[]) (n:=0) h0).nI) (vK.cons ((uv (H:=[]) (n:=0) h1).nI) (vK.cons ((Rs (H:=[]) (n:=0) h2).nI) (vK.cons ((ww (H:=[]) (n:=0) h3).nI) (vK.cons (aF7 (jX.aiS lr _) h4) vK.nil)))))
   ·cases h
def jX.aiS:∀(xs:List jX)(rs:List (List AV)),jX.ofR rs=some xs->Uf rs (mp jX.cells xs)
 |[],rs,h=>by
  cases rs with
  |nil=>rw[qj];exact Uf.nil
  |cons r rs=>
   simp only[jX.ofR,fg,fi]at h;obtain⟨_,_,_,_,h⟩:=h;cases h
 |x::xs,rs,h=>by
  cases rs with
  |nil=>simp only[jX.ofR,fi]at h;cases h
  |cons r rs=>
   simp only[jX.ofR,fg,fi,List.cons.injEq]at h;obtain⟨_,hx,_,hys,rfl,rfl⟩:=h;have h2:=jX.aiS _ rs hys;rw[qj]at h2 ⊢;exact Uf.cons (jX.WT _ r hx).aHX h2
end
def jX.row:Row jX:=⟨jX.cells,jX.of0,5,fun r x h=>jX.WT x r h,jX.nb⟩
def jX.lZ(xs:List jX):qR jX.of0 (mp jX.cells xs)=some xs:=yE jX.yI xs
def jX.of(H:List j6):List AV->Option jX
 |[c0,c1,c2,c3,c4]=>(dI .i64 c0).bind fun x0=>(dI .i64 c1).bind fun x1=>(dS c2).bind fun x2=>(dL kE.row H c3).bind fun x3=>(dL jX.row H c4).bind fun x4=>some (.mk x0 x1 x2 x3 x4)
 |_=>none
def jX.mZ{c0 c1 c2 c3 c4:AV}:jX.of H [c0,c1,c2,c3,c4]=(dI .i64 c0).bind fun x0=>(dI .i64 c1).bind fun x1=>(dS c2).bind fun x2=>(dL kE.row H c3).bind fun x3=>(dL jX.row H c4).bind fun x4=>some (.mk x0 x1 x2 x3 x4):=rfl
def jX.kR(H:List j6)(x:jX):jX.of H [.int .i64 x.kind,.int .i64 x.index,.str (sb x.name),.kJ false 2 (mp kE.cells x.kC),.kJ false 5 (mp jX.cells x.lr)]=some x:=by
 simp only[jX.mZ,wu,sM,Bh,nN,zC,beq_self_eq_true,fm,jF,dL,kE.lZ,kE.row,jX.lZ,jX.row]
 try (cases x;rfl)
theorem jX.l9(H:List j6)(x:jX):jX.of H x.cells=some x:=by rw[jX.jW];exact jX.kR H x
def jX.nL{x:jX}(h:jX.of H cs=some x):lQ H n cs x.cells:=by
 unfold jX.of at h;split at h
 ·simp only[fg,fi]at h;obtain⟨x0,h0,x1,h1,x2,h2,x3,h3,x4,h4,rfl⟩:=h;rw[jX.kP];exact(lQ.cons (uv h0) (lQ.cons (uv h1) (lQ.cons (Rs h2) (lQ.cons (ww h3) (lQ.cons (ww h4) lQ.nil)))))
 ·cases h
def jX.kr:Ru jX:=⟨jX.cells,jX.of,fun _ _ _ _ h=>jX.nL h,jX.nb⟩
def jX.sF:jX.row.enc=jX.cells/\jX.row.mK=jX.of0/\jX.row.sz=5/\jX.kr.enc=jX.cells/\jX.kr.mK=jX.of:=⟨rfl,rfl,rfl,rfl,rfl⟩
def jX.eta(x:jX):jX.mk x.kind x.index x.name x.kC x.lr=x:=by cases x;rfl
attribute [go_sem] jX.mZ jX.l9 jX.lZ jX.sF jX.eta jX.of0 jX.yI jX.avN
def jX.Pt:(∀(y0:Int)(y1:Int)(y2:kp)(y3:List kE)(y4:List jX),(jX.mk y0 y1 y2 y3 y4).kind=y0)/\(∀(y0:Int)(y1:Int)(y2:kp)(y3:List kE)(y4:List jX),(jX.mk y0 y1 y2 y3 y4).index=y1)/\(∀(y0:Int)(y1:Int)(y2:kp)(y3:List kE)(y4:List jX),(jX.mk y0 y1 y2 y3 y4).name=y2)/\(∀(y0:Int)(y1:Int)(y2:kp)(y3:List kE)(y4:List jX),(jX.mk y0 y1 y2 y3 y4).kC=y3)/\(∀(y0:Int)(y1:Int)(y2:kp)(y3:List kE)(y4:List jX),(jX.mk y0 y1 y2 y3 y4).lr=y4):=⟨fun _ _ _ _ _=>rfl,fun _ _ _ _ _=>rfl,fun _ _ _ _ _=>rfl,fun _ _ _ _ _=>rfl,fun _ _ _ _ _=>rfl⟩
attribute [go_sem] jX.Pt
def jX.nbs:(∀(n:Nat)(x:jX),Go.Abs.ua n x.cells=True)/\∀(n:Nat)(xs:List jX),Go.Abs.alP n (mp jX.cells xs)=True:=⟨fun n x=>eq_true (jX.nb n x),fun n xs=>eq_true (mz (jX.nb n) xs)⟩
def jX.afa:(∀(Y:Nat->Nat)(x:jX),sO Y x.cells=x.cells)/\∀(Y:Nat->Nat)(xs:List jX),FX Y (mp jX.cells xs)=mp jX.cells xs:=⟨fun Y x=>qI Y _ (jX.nb 0 x),fun Y xs=>uE Y _ (mz (jX.nb 0) xs)⟩
def jX.vw(H:List j6)(x:jX):vwL H x.cells=some (x.cells,[]):=yF H _ (jX.nb 0 x)
attribute [go_sem] jX.vw
theorem jX.frz(low:Nat)(H:List j6)(x:jX):as8 low H x.cells=x.cells:=Lm low H _ (jX.nb 0 x)
def jX.rpv(l:Nat)(ds:List AV)(x:jX):x.cells.map (rpV l ds)=x.cells:=WN _ (jX.nb 0 x)
attribute [go_sem] jX.rpv
def jX.reads:
 (∀x:jX,cellsOf (.agg x.cells)=some x.cells)/\
 (∀x:jX,kq true 5 x.cells=some (.agg x.cells))/\
 (∀x:jX,kq false 1 x.cells=some (.int .i64 x.kind))/\
 (∀x:jX,kq false 1 (x.cells.drop 1)=some (.int .i64 x.index))/\
 (∀x:jX,kq false 1 (x.cells.drop 2)=some (.str (sb x.name)))/\
 (∀x:jX,kq false 1 (x.cells.drop 3)=some (.kJ false 2 (mp kE.cells x.kC)))/\
 (∀x:jX,kq false 1 (x.cells.drop 4)=some (.kJ false 5 (mp jX.cells x.lr))):=
 ⟨fun x=>by simp only[cellsOf,jX.lI,jN],
  fun x=>p5 (jX.length x),
  fun x=>by rw[jX.jW];rfl,
  fun x=>by rw[jX.jW];rfl,
  fun x=>by rw[jX.jW];rfl,
  fun x=>by rw[jX.jW];rfl,
  fun x=>by rw[jX.jW];rfl⟩
def jX.cns(x:jX)(c:AV):c::x.cells=[c,.int .i64 x.kind,.int .i64 x.index,.str (sb x.name),.kJ false 2 (mp kE.cells x.kC),.kJ false 5 (mp jX.cells x.lr)]:=by rw[jX.jW]
attribute [go_sem] jX.cns jX.nbs jX.afa jX.frz jX.reads jX.length jX.lI
structure kZ where
 params:Int
 type:jX
 yG:List jX
def kZ.cells(x:kZ):List AV:=[.int .i64 x.params]++x.type.cells++[.kJ false 5 (mp jX.cells x.yG)]
theorem kZ.kP(x:kZ):x.cells=[.int .i64 x.params]++x.type.cells++[.kJ false 5 (mp jX.cells x.yG)]:=rfl
theorem kZ.jW(x:kZ):x.cells=[.int .i64 x.params,.int .i64 x.type.kind,.int .i64 x.type.index,.str (sb x.type.name),.kJ false 2 (mp kE.cells x.type.kC),.kJ false 5 (mp jX.cells x.type.lr),.kJ false 5 (mp jX.cells x.yG)]:=by
 simp only[kZ.cells,jX.jW,fp,fq,fw]
attribute [irreducible] kZ.cells
theorem kZ.nb(n:Nat)(x:kZ):ua n x.cells:=by
 rw[kZ.kP];exact(pE (pE ⟨trivial,trivial⟩ (jX.nb n x.type)) ⟨mz (jX.nb n) _,trivial⟩)
def kZ.of(H:List j6):List AV->Option kZ
 |[c0,c1,c2,c3,c4,c5,c6]=>(dI .i64 c0).bind fun x0=>(jX.of H [c1,c2,c3,c4,c5]).bind fun x1=>(dL jX.row H c6).bind fun x2=>some (.mk x0 x1 x2)
 |_=>none
def kZ.mZ{c0 c1 c2 c3 c4 c5 c6:AV}:kZ.of H [c0,c1,c2,c3,c4,c5,c6]=(dI .i64 c0).bind fun x0=>(jX.of H [c1,c2,c3,c4,c5]).bind fun x1=>(dL jX.row H c6).bind fun x2=>some (.mk x0 x1 x2):=rfl
def kZ.kR(H:List j6)(x:kZ):kZ.of H [.int .i64 x.params,.int .i64 x.type.kind,.int .i64 x.type.index,.str (sb x.type.name),.kJ false 2 (mp kE.cells x.type.kC),.kJ false 5 (mp jX.cells x.type.lr),.kJ false 5 (mp jX.cells x.yG)]=some x:=by
 simp only[kZ.mZ,wu,sM,Bh,nN,zC,beq_self_eq_true,fm,jF,dL,jX.lZ,jX.row,jX.kR]
 try (cases x;rfl)
def kZ.nL{x:kZ}(h:kZ.of H cs=some x):lQ H n cs x.cells:=by
 unfold kZ.of at h;split at h
 ·simp only[fg,fi]at h;obtain⟨x0,h0,x1,h1,x2,h2,rfl⟩:=h;rw[kZ.kP];exact(lQ.append (lQ.append (lQ.cons (uv h0) lQ.nil) (jX.nL h1)) (lQ.cons (ww h2) lQ.nil))
 ·cases h
def kZ.kr:Ru kZ:=⟨kZ.cells,kZ.of,fun _ _ _ _ h=>kZ.nL h,kZ.nb⟩
def kZ.row:Row kZ:=⟨kZ.cells,kZ.of [],7,fun _ _ h=>(kZ.nL (n:=0) h).nI,kZ.nb⟩
def kZ.sF:kZ.row.enc=kZ.cells/\kZ.row.mK=kZ.of []/\kZ.row.sz=7/\kZ.kr.enc=kZ.cells/\kZ.kr.mK=kZ.of:=⟨rfl,rfl,rfl,rfl,rfl⟩
def kZ.eta(x:kZ):kZ.mk x.params x.type x.yG=x:=by cases x;rfl
attribute [go_sem] kZ.mZ kZ.sF kZ.eta
def kZ.Pt:(∀(y0:Int)(y1:jX)(y2:List jX),(kZ.mk y0 y1 y2).params=y0)/\(∀(y0:Int)(y1:jX)(y2:List jX),(kZ.mk y0 y1 y2).type=y1)/\(∀(y0:Int)(y1:jX)(y2:List jX),(kZ.mk y0 y1 y2).yG=y2):=⟨fun _ _ _=>rfl,fun _ _ _=>rfl,fun _ _ _=>rfl⟩
attribute [go_sem] kZ.Pt
structure mL where
 name:kp
 type:jX
def mL.cells(x:mL):List AV:=[.str (sb x.name)]++x.type.cells
theorem mL.kP(x:mL):x.cells=[.str (sb x.name)]++x.type.cells:=rfl
theorem mL.jW(x:mL):x.cells=[.str (sb x.name),.int .i64 x.type.kind,.int .i64 x.type.index,.str (sb x.type.name),.kJ false 2 (mp kE.cells x.type.kC),.kJ false 5 (mp jX.cells x.type.lr)]:=by
 simp only[mL.cells,jX.jW,fp,fq,fw]
attribute [irreducible] mL.cells
theorem mL.length(x:mL):x.cells.length=6:=by rw[mL.jW];rfl
def mL.lI(x:mL):x.cells.all AV.lI=true:=by rw[mL.jW];rfl
theorem mL.nb(n:Nat)(x:mL):ua n x.cells:=by
 rw[mL.kP];exact(pE ⟨trivial,trivial⟩ (jX.nb n x.type))
def mL.of(H:List j6):List AV->Option mL
 |[c0,c1,c2,c3,c4,c5]=>(dS c0).bind fun x0=>(jX.of H [c1,c2,c3,c4,c5]).bind fun x1=>some (.mk x0 x1)
 |_=>none
def mL.mZ{c0 c1 c2 c3 c4 c5:AV}:mL.of H [c0,c1,c2,c3,c4,c5]=(dS c0).bind fun x0=>(jX.of H [c1,c2,c3,c4,c5]).bind fun x1=>some (.mk x0 x1):=rfl
def mL.kR(H:List j6)(x:mL):mL.of H [.str (sb x.name),.int .i64 x.type.kind,.int .i64 x.type.index,.str (sb x.type.name),.kJ false 2 (mp kE.cells x.type.kC),.kJ false 5 (mp jX.cells x.type.lr)]=some x:=by
 simp only[mL.mZ,wu,sM,Bh,nN,zC,beq_self_eq_true,fm,jF,dL,jX.kR]
 try (cases x;rfl)
theorem mL.l9(H:List j6)(x:mL):mL.of H x.cells=some x:=by rw[mL.jW];exact mL.kR H x
def mL.nL{x:mL}(h:mL.of H cs=some x):lQ H n cs x.cells:=by
 unfold mL.of at h;split at h
 ·simp only[fg,fi]at h;obtain⟨x0,h0,x1,h1,rfl⟩:=h;rw[mL.kP];exact(lQ.append (lQ.cons (Rs h0) lQ.nil) (jX.nL h1))
 ·cases h
def mL.kr:Ru mL:=⟨mL.cells,mL.of,fun _ _ _ _ h=>mL.nL h,mL.nb⟩
def mL.row:Row mL:=⟨mL.cells,mL.of [],6,fun _ _ h=>(mL.nL (n:=0) h).nI,mL.nb⟩
def mL.lZ(xs:List mL):qR (mL.of []) (mp mL.cells xs)=some xs:=yE (mL.l9 []) xs
def mL.sF:mL.row.enc=mL.cells/\mL.row.mK=mL.of []/\mL.row.sz=6/\mL.kr.enc=mL.cells/\mL.kr.mK=mL.of:=⟨rfl,rfl,rfl,rfl,rfl⟩
attribute [go_sem] mL.mZ mL.l9 mL.lZ mL.sF
def mL.Pt:(∀(y0:kp)(y1:jX),(mL.mk y0 y1).name=y0)/\(∀(y0:kp)(y1:jX),(mL.mk y0 y1).type=y1):=⟨fun _ _=>rfl,fun _ _=>rfl⟩
attribute [go_sem] mL.Pt
def mL.nbs:(∀(n:Nat)(x:mL),Go.Abs.ua n x.cells=True)/\∀(n:Nat)(xs:List mL),Go.Abs.alP n (mp mL.cells xs)=True:=⟨fun n x=>eq_true (mL.nb n x),fun n xs=>eq_true (mz (mL.nb n) xs)⟩
def mL.reads:
 (∀x:mL,cellsOf (.agg x.cells)=some x.cells)/\
 (∀x:mL,kq true 6 x.cells=some (.agg x.cells))/\
 (∀x:mL,kq false 1 x.cells=some (.str (sb x.name)))/\
 (∀x:mL,kq false 1 (x.cells.drop 1)=some (.int .i64 x.type.kind))/\
 (∀x:mL,kq false 1 (x.cells.drop 2)=some (.int .i64 x.type.index))/\
 (∀x:mL,kq false 1 (x.cells.drop 3)=some (.str (sb x.type.name)))/\
 (∀x:mL,kq false 1 (x.cells.drop 4)=some (.kJ false 2 (mp kE.cells x.type.kC)))/\
 (∀x:mL,kq false 1 (x.cells.drop 5)=some (.kJ false 5 (mp jX.cells x.type.lr)))/\
 (∀x:mL,kq true 5 (x.cells.drop 1)=some (.agg x.type.cells)):=
 ⟨fun x=>by simp only[cellsOf,mL.lI,jN],
  fun x=>p5 (mL.length x),
  fun x=>by rw[mL.jW];rfl,
  fun x=>by rw[mL.jW];rfl,
  fun x=>by rw[mL.jW];rfl,
  fun x=>by rw[mL.jW];rfl,
  fun x=>by rw[mL.jW];rfl,
  fun x=>by rw[mL.jW];rfl,
  fun x=>by rw[mL.jW];simp only[jX.jW,fk,fo];rfl⟩
attribute [go_sem] mL.nbs mL.reads mL.length mL.lI
mutual
inductive lh where
 |mk (kind:Int) (body:jX) (var:Int) (ol:List kw)
inductive kw where
 |mk (YL:kp) (zi:Bool) (tj:lh)
end
def lh.kind:lh->Int|.mk x _ _ _=>x
def lh.body:lh->jX|.mk _ x _ _=>x
def lh.var:lh->Int|.mk _ _ x _=>x
def lh.ol:lh->List kw|.mk _ _ _ x=>x
def kw.YL:kw->kp|.mk x _ _=>x
def kw.zi:kw->Bool|.mk _ x _=>x
def kw.tj:kw->lh|.mk _ _ x=>x
mutual
def lh.cells:lh->List AV
 |.mk kind body var ol=>[.int .i64 kind]++body.cells++[.int .i64 var,.kJ false 10 (kw.M1 ol)]
def kw.cells:kw->List AV
 |.mk YL zi tj=>[.str (sb YL),.bool zi]++tj.cells
def kw.M1:List kw->List (List AV)
 |[]=>[]
 |t::ts=>t.cells::kw.M1 ts
end
theorem kw.C0:∀ts:List kw,kw.M1 ts=mp kw.cells ts
 |[]=>by rw[qj];rfl
 |t::ts=>by rw[kw.M1,kw.C0 ts,qj,qj];rfl
theorem lh.kP(x:lh):x.cells=[.int .i64 x.kind]++x.body.cells++[.int .i64 x.var,.kJ false 10 (mp kw.cells x.ol)]:=by
 cases x;simp only[lh.cells,kw.C0];rfl
theorem kw.kP(x:kw):x.cells=[.str (sb x.YL),.bool x.zi]++x.tj.cells:=by
 cases x;simp only[kw.cells];rfl
theorem lh.jW(x:lh):x.cells=[.int .i64 x.kind,.int .i64 x.body.kind,.int .i64 x.body.index,.str (sb x.body.name),.kJ false 2 (mp kE.cells x.body.kC),.kJ false 5 (mp jX.cells x.body.lr),.int .i64 x.var,.kJ false 10 (mp kw.cells x.ol)]:=by
 cases x;simp only[lh.cells,jX.jW,kw.C0,fp,fq,fw];rfl
theorem kw.jW(x:kw):x.cells=[.str (sb x.YL),.bool x.zi,.int .i64 x.tj.kind,.int .i64 x.tj.body.kind,.int .i64 x.tj.body.index,.str (sb x.tj.body.name),.kJ false 2 (mp kE.cells x.tj.body.kC),.kJ false 5 (mp jX.cells x.tj.body.lr),.int .i64 x.tj.var,.kJ false 10 (mp kw.cells x.tj.ol)]:=by
 cases x;simp only[kw.cells,lh.jW,fp,fq,fw];rfl
attribute [irreducible] lh.cells
attribute [irreducible] kw.cells
theorem lh.length(x:lh):x.cells.length=8:=by rw[lh.jW];rfl
def lh.lI(x:lh):x.cells.all AV.lI=true:=by rw[lh.jW];rfl
theorem kw.length(x:kw):x.cells.length=10:=by rw[kw.jW];rfl
def kw.lI(x:kw):x.cells.all AV.lI=true:=by rw[kw.jW];rfl
mutual
theorem lh.nb(n:Nat):∀x:lh,ua n x.cells
 | .mk kind body var ol=>by
   rw[lh.kP];exact(pE (pE ⟨trivial,trivial⟩ (jX.nb n body)) ⟨trivial,kw.alP n ol,trivial⟩)
theorem kw.nb(n:Nat):∀x:kw,ua n x.cells
 | .mk YL zi tj=>by
   rw[kw.kP];exact(pE ⟨trivial,trivial,trivial⟩ (lh.nb n tj))
theorem kw.alP(n:Nat):∀ts:List kw,alP n (mp kw.cells ts)
 |[]=>by rw[qj];trivial
 |t::ts=>by have:=kw.alP n ts;rw[qj]at this ⊢;exact⟨kw.nb n t,this⟩
end
mutual
def lh.of0:List AV->Option lh
 |[c0,c1,c2,c3,c4,c5,c6,.kJ _ z7 r7]=>(dI .i64 c0).bind fun x0=>(jX.of [] [c1,c2,c3,c4,c5]).bind fun x1=>(dI .i64 c6).bind fun x2=>(bif zC z7 10 r7 then kw.ofR r7 else none).bind fun x3=>some (.mk x0 x1 x2 x3)
 |_=>none
def kw.of0:List AV->Option kw
 |c0::c1::rest=>(dS c0).bind fun x0=>(dB c1).bind fun x1=>(lh.of0 rest).bind fun x2=>some (.mk x0 x1 x2)
 |_=>none
def kw.ofR:List (List AV)->Option (List kw)
 |[]=>some []
 |r::rs=>(kw.of0 r).bind fun x=>(kw.ofR rs).bind fun xs=>some (x::xs)
end
mutual
def lh.yI:∀x:lh,lh.of0 x.cells=some x
 | .mk kind body var ol=>by
   rw[lh.jW];show lh.of0 [.int .i64 kind,.int .i64 body.kind,.int .i64 body.index,.str (sb body.name),.kJ false 2 (mp kE.cells body.kC),.kJ false 5 (mp jX.cells body.lr),.int .i64 var,.kJ false 10 (mp kw.cells ol)]=_;simp only[lh.of0,wu,sM,Bh,nN,zC,beq_self_eq_true,fm,jF,dL,kw.LS ol,jX.kR]
def kw.yI:∀x:kw,kw.of0 x.cells=some x
 | .mk YL zi tj=>by
   have e:kw.cells (.mk YL zi tj)=(AV.str (sb YL):AV)::(.bool zi)::tj.cells:=by rw[kw.kP];rfl
   rw[e];simp only[kw.of0,lh.yI tj,wu,sM,Bh,nN]
def kw.LS:∀xs:List kw,kw.ofR (mp kw.cells xs)=some xs
 |[]=>by rw[qj];simp only[fy,kw.ofR]
 |x::xs=>by have h:=kw.LS xs;rw[qj]at h ⊢;simp only[fx,kw.ofR,kw.yI x,h,nN]
end
mutual
def lh.WT:∀(x:lh)(r:List AV),lh.of0 r=some x->vK r x.cells
 | .mk kind body var ol,r,h=>by
   unfold lh.of0 at h;split at h
   ·simp only[fg,fi,lh.mk.injEq]at h;obtain⟨x0,h0,x1,h1,x2,h2,x3,h3,e0,e1,e2,e3⟩:=h;rw[e0]at h0;rw[e1]at h1;rw[e2]at h2;rw[e3]at h3;rw[lh.kP];exact(vK.append (vK.append (vK.cons ((uv (H:=[]) (n:=0) h0).nI) vK.nil) ((jX.nL (n:=0) h1).nI)) (vK.cons ((uv (H:=[]) (n:=0) h2).nI) (vK.cons (aF7 (kw.aiS ol _) h3) vK.nil)))
   ·cases h
def kw.WT:∀(x:kw)(r:List AV),kw.of0 r=some x->vK r x.cells
 | .mk YL zi tj,r,h=>by
   unfold kw.of0 at h;split at h
   ·simp only[fg,fi,kw.mk.injEq]at h;obtain⟨x0,h0,x1,h1,x2,h2,e0,e1,e2⟩:=h;rw[e0]at h0;rw[e1]at h1;rw[e2]at h2;rw[kw.kP];exact(vK.append (vK.cons ((Rs (H:=[]) (n:=0) h0).nI) (vK.cons ((asy (H:=[]) (n:=0) h1).nI) vK.nil)) (lh.WT tj _ h2))
   ·cases h
def kw.aiS:∀(xs:List kw)(rs:List (List AV)),kw.ofR rs=some xs->Uf rs (mp kw.cells xs)
 |[],rs,h=>by
  cases rs with
  |nil=>rw[qj];exact Uf.nil
  |cons r rs=>
   simp only[kw.ofR,fg,fi]at h;obtain⟨_,_,_,_,h⟩:=h;cases h
 |x::xs,rs,h=>by
  cases rs with
  |nil=>simp only[kw.ofR,fi]at h;cases h
  |cons r rs=>
   simp only[kw.ofR,fg,fi,List.cons.injEq]at h;obtain⟨_,hx,_,hys,rfl,rfl⟩:=h;have h2:=kw.aiS _ rs hys;rw[qj]at h2 ⊢;exact Uf.cons (kw.WT _ r hx).aHX h2
end
def lh.row:Row lh:=⟨lh.cells,lh.of0,8,fun r x h=>lh.WT x r h,lh.nb⟩
def kw.row:Row kw:=⟨kw.cells,kw.of0,10,fun r x h=>kw.WT x r h,kw.nb⟩
def kw.lZ(xs:List kw):qR kw.of0 (mp kw.cells xs)=some xs:=yE kw.yI xs
def lh.of(H:List j6):List AV->Option lh
 |[c0,c1,c2,c3,c4,c5,c6,c7]=>(dI .i64 c0).bind fun x0=>(jX.of H [c1,c2,c3,c4,c5]).bind fun x1=>(dI .i64 c6).bind fun x2=>(dL kw.row H c7).bind fun x3=>some (.mk x0 x1 x2 x3)
 |_=>none
def lh.mZ {c0 c1 c2 c3 c4 c5 c6:AV}:lh.of H [c0,c1,c2,c3,c4,c5,c6,c7]=(dI .i64 c0).bind fun x0=>(jX.of H [c1,c2,c3,c4,c5]).bind fun x1=>(dI .i64 c6).bind fun x2=>(dL kw.row H c7).bind fun x3=>some (.mk x0 x1 x2 x3):=rfl
def lh.kR(H:List j6)(x:lh):lh.of H [.int .i64 x.kind,.int .i64 x.body.kind,.int .i64 x.body.index,.str (sb x.body.name),.kJ false 2 (mp kE.cells x.body.kC),.kJ false 5 (mp jX.cells x.body.lr),.int .i64 x.var,.kJ false 10 (mp kw.cells x.ol)]=some x:=by
 simp only[lh.mZ,wu,sM,Bh,nN,zC,beq_self_eq_true,fm,jF,dL,kw.lZ,kw.row,jX.kR]
 try (cases x;rfl)
theorem lh.l9(H:List j6)(x:lh):lh.of H x.cells=some x:=by rw[lh.jW];exact lh.kR H x
def lh.nL{x:lh}(h:lh.of H cs=some x):lQ H n cs x.cells:=by
 unfold lh.of at h;split at h
 ·simp only[fg,fi]at h;obtain⟨x0,h0,x1,h1,x2,h2,x3,h3,rfl⟩:=h;rw[lh.kP];exact(lQ.append (lQ.append (lQ.cons (uv h0) lQ.nil) (jX.nL h1)) (lQ.cons (uv h2) (lQ.cons (ww h3) lQ.nil)))
 ·cases h
def lh.kr:Ru lh:=⟨lh.cells,lh.of,fun _ _ _ _ h=>lh.nL h,lh.nb⟩
def lh.sF:lh.row.enc=lh.cells/\lh.row.mK=lh.of0/\lh.row.sz=8/\lh.kr.enc=lh.cells/\lh.kr.mK=lh.of:=⟨rfl,rfl,rfl,rfl,rfl⟩
attribute [go_sem] lh.mZ lh.l9 lh.sF lh.of0 lh.yI
def lh.Pt:(∀(y0:Int)(y1:jX)(y2:Int)(y3:List kw),(lh.mk y0 y1 y2 y3).kind=y0)/\(∀(y0:Int)(y1:jX)(y2:Int)(y3:List kw),(lh.mk y0 y1 y2 y3).body=y1)/\(∀(y0:Int)(y1:jX)(y2:Int)(y3:List kw),(lh.mk y0 y1 y2 y3).var=y2)/\(∀(y0:Int)(y1:jX)(y2:Int)(y3:List kw),(lh.mk y0 y1 y2 y3).ol=y3):=⟨fun _ _ _ _=>rfl,fun _ _ _ _=>rfl,fun _ _ _ _=>rfl,fun _ _ _ _=>rfl⟩
attribute [go_sem] lh.Pt
def kw.of(H:List j6):List AV->Option kw
 |[c0,c1,c2,c3,c4,c5,c6,c7,c8,c9]=>(dS c0).bind fun x0=>(dB c1).bind fun x1=>(lh.of H [c2,c3,c4,c5,c6,c7,c8,c9]).bind fun x2=>some (.mk x0 x1 x2)
 |_=>none
def kw.mZ {c0 c1 c2 c3 c4 c5 c6:AV}:kw.of H [c0,c1,c2,c3,c4,c5,c6,c7,c8,c9]=(dS c0).bind fun x0=>(dB c1).bind fun x1=>(lh.of H [c2,c3,c4,c5,c6,c7,c8,c9]).bind fun x2=>some (.mk x0 x1 x2):=rfl
def kw.nL{x:kw}(h:kw.of H cs=some x):lQ H n cs x.cells:=by
 unfold kw.of at h;split at h
 ·simp only[fg,fi]at h;obtain⟨x0,h0,x1,h1,x2,h2,rfl⟩:=h;rw[kw.kP];exact(lQ.append (lQ.cons (Rs h0) (lQ.cons (asy h1) lQ.nil)) (lh.nL h2))
 ·cases h
def kw.kr:Ru kw:=⟨kw.cells,kw.of,fun _ _ _ _ h=>kw.nL h,kw.nb⟩
def kw.sF:kw.row.enc=kw.cells/\kw.row.mK=kw.of0/\kw.row.sz=10/\kw.kr.enc=kw.cells/\kw.kr.mK=kw.of:=⟨rfl,rfl,rfl,rfl,rfl⟩
attribute [go_sem] kw.mZ kw.lZ kw.sF kw.of0 kw.yI
def kw.Pt:(∀(y0:kp)(y1:Bool)(y2:lh),(kw.mk y0 y1 y2).YL=y0)/\(∀(y0:kp)(y1:Bool)(y2:lh),(kw.mk y0 y1 y2).zi=y1)/\(∀(y0:kp)(y1:Bool)(y2:lh),(kw.mk y0 y1 y2).tj=y2):=⟨fun _ _ _=>rfl,fun _ _ _=>rfl,fun _ _ _=>rfl⟩
attribute [go_sem] kw.Pt
def lh.nbs:(∀(n:Nat)(x:lh),Go.Abs.ua n x.cells=True)/\∀(n:Nat)(xs:List lh),Go.Abs.alP n (mp lh.cells xs)=True:=⟨fun n x=>eq_true (lh.nb n x),fun n xs=>eq_true (mz (lh.nb n) xs)⟩
def lh.vw(H:List j6)(x:lh):vwL H x.cells=some (x.cells,[]):=yF H _ (lh.nb 0 x)
attribute [go_sem] lh.vw
def lh.reads:
 (∀x:lh,cellsOf (.agg x.cells)=some x.cells)/\
 (∀x:lh,kq true 8 x.cells=some (.agg x.cells))/\
 (∀x:lh,kq false 1 x.cells=some (.int .i64 x.kind))/\
 (∀x:lh,kq false 1 (x.cells.drop 1)=some (.int .i64 x.body.kind))/\
 (∀x:lh,kq false 1 (x.cells.drop 2)=some (.int .i64 x.body.index))/\
 (∀x:lh,kq false 1 (x.cells.drop 3)=some (.str (sb x.body.name)))/\
 (∀x:lh,kq false 1 (x.cells.drop 4)=some (.kJ false 2 (mp kE.cells x.body.kC)))/\
 (∀x:lh,kq false 1 (x.cells.drop 5)=some (.kJ false 5 (mp jX.cells x.body.lr)))/\
 (∀x:lh,kq false 1 (x.cells.drop 6)=some (.int .i64 x.var))/\
 (∀x:lh,kq false 1 (x.cells.drop 7)=some (.kJ false 10 (mp kw.cells x.ol)))/\
 (∀x:lh,kq true 5 (x.cells.drop 1)=some (.agg x.body.cells)):=
 ⟨fun x=>by simp only[cellsOf,lh.lI,jN],
  fun x=>p5 (lh.length x),
  fun x=>by rw[lh.jW];rfl,
  fun x=>by rw[lh.jW];rfl,
  fun x=>by rw[lh.jW];rfl,
  fun x=>by rw[lh.jW];rfl,
  fun x=>by rw[lh.jW];rfl,
  fun x=>by rw[lh.jW];rfl,
  fun x=>by rw[lh.jW];rfl,
  fun x=>by rw[lh.jW];rfl,
  fun x=>by rw[lh.jW];simp only[jX.jW,fk,fo];rfl⟩
attribute [go_sem] lh.nbs lh.reads lh.length lh.lI
def kw.reads:
 (∀x:kw,cellsOf (.agg x.cells)=some x.cells)/\
 (∀x:kw,kq true 10 x.cells=some (.agg x.cells))/\
 (∀x:kw,kq false 1 x.cells=some (.str (sb x.YL)))/\
 (∀x:kw,kq false 1 (x.cells.drop 1)=some (.bool x.zi))/\
 (∀x:kw,kq false 1 (x.cells.drop 2)=some (.int .i64 x.tj.kind))/\
 (∀x:kw,kq false 1 (x.cells.drop 3)=some (.int .i64 x.tj.body.kind))/\
 (∀x:kw,kq false 1 (x.cells.drop 4)=some (.int .i64 x.tj.body.index))/\
 (∀x:kw,kq false 1 (x.cells.drop 5)=some (.str (sb x.tj.body.name)))/\
 (∀x:kw,kq false 1 (x.cells.drop 6)=some (.kJ false 2 (mp kE.cells x.tj.body.kC)))/\
 (∀x:kw,kq false 1 (x.cells.drop 7)=some (.kJ false 5 (mp jX.cells x.tj.body.lr)))/\
 (∀x:kw,kq false 1 (x.cells.drop 8)=some (.int .i64 x.tj.var))/\
 (∀x:kw,kq false 1 (x.cells.drop 9)=some (.kJ false 10 (mp kw.cells x.tj.ol)))/\
 (∀x:kw,kq true 8 (x.cells.drop 2)=some (.agg x.tj.cells))/\
 (∀x:kw,kq true 5 (x.cells.drop 3)=some (.agg x.tj.body.cells)):=
 ⟨fun x=>by simp only[cellsOf,kw.lI,jN],
  fun x=>p5 (kw.length x),
  fun x=>by rw[kw.jW];rfl,
  fun x=>by rw[kw.jW];rfl,
  fun x=>by rw[kw.jW];rfl,
  fun x=>by rw[kw.jW];rfl,
  fun x=>by rw[kw.jW];rfl,
  fun x=>by rw[kw.jW];rfl,
  fun x=>by rw[kw.jW];rfl,
  fun x=>by rw[kw.jW];rfl,
  fun x=>by rw[kw.jW];rfl,
  fun x=>by rw[kw.jW];rfl,
  fun x=>by rw[kw.jW];simp only[jX.jW,lh.jW,fk,fo];rfl,
  fun x=>by rw[kw.jW];simp only[jX.jW,lh.jW,fk,fo];rfl⟩
attribute [go_sem] kw.reads kw.length kw.lI
structure qH where
 name:kp
 type:jX
 avO:Int
 tj:lh
def qH.cells(x:qH):List AV:=[.str (sb x.name)]++x.type.cells++[.int .i64 x.avO]++x.tj.cells
theorem qH.kP(x:qH):x.cells=[.str (sb x.name)]++x.type.cells++[.int .i64 x.avO]++x.tj.cells:=rfl
theorem qH.jW(x:qH):x.cells=[.str (sb x.name),.int .i64 x.type.kind,.int .i64 x.type.index,.str (sb x.type.name),.kJ false 2 (mp kE.cells x.type.kC),.kJ false 5 (mp jX.cells x.type.lr),.int .i64 x.avO,.int .i64 x.tj.kind,.int .i64 x.tj.body.kind,.int .i64 x.tj.body.index,.str (sb x.tj.body.name),.kJ false 2 (mp kE.cells x.tj.body.kC),.kJ false 5 (mp jX.cells x.tj.body.lr),.int .i64 x.tj.var,.kJ false 10 (mp kw.cells x.tj.ol)]:=by
 simp only[qH.cells,jX.jW,lh.jW,fp,fq,fw]
attribute [irreducible] qH.cells
theorem qH.length(x:qH):x.cells.length=15:=by rw[qH.jW];rfl
def qH.lI(x:qH):x.cells.all AV.lI=true:=by rw[qH.jW];rfl
theorem qH.nb(n:Nat)(x:qH):ua n x.cells:=by
 rw[qH.kP];exact(pE (pE (pE ⟨trivial,trivial⟩ (jX.nb n x.type)) ⟨trivial,trivial⟩) (lh.nb n x.tj))
def qH.of(H:List j6):List AV->Option qH
 |[c0,c1,c2,c3,c4,c5,c6,c7,c8,c9,c10,c11,c12,c13,c14]=>(dS c0).bind fun x0=>(jX.of H [c1,c2,c3,c4,c5]).bind fun x1=>(dI .i64 c6).bind fun x2=>(lh.of H [c7,c8,c9,c10,c11,c12,c13,c14]).bind fun x3=>some (.mk x0 x1 x2 x3)
 |_=>none
def qH.mZ {c0 c1 c2 c3 c4 c5 c6 c14:AV}:qH.of H [c0,c1,c2,c3,c4,c5,c6,c7,c8,c9,c10,c11,c12,c13,c14]=(dS c0).bind fun x0=>(jX.of H [c1,c2,c3,c4,c5]).bind fun x1=>(dI .i64 c6).bind fun x2=>(lh.of H [c7,c8,c9,c10,c11,c12,c13,c14]).bind fun x3=>some (.mk x0 x1 x2 x3):=rfl
def qH.kR(H:List j6)(x:qH):qH.of H [.str (sb x.name),.int .i64 x.type.kind,.int .i64 x.type.index,.str (sb x.type.name),.kJ false 2 (mp kE.cells x.type.kC),.kJ false 5 (mp jX.cells x.type.lr),.int .i64 x.avO,.int .i64 x.tj.kind,.int .i64 x.tj.body.kind,.int .i64 x.tj.body.index,.str (sb x.tj.body.name),.kJ false 2 (mp kE.cells x.tj.body.kC),.kJ false 5 (mp jX.cells x.tj.body.lr),.int .i64 x.tj.var,.kJ false 10 (mp kw.cells x.tj.ol)]=some x:=by
 simp only[qH.mZ,wu,sM,Bh,nN,zC,beq_self_eq_true,fm,jF,dL,jX.kR,lh.kR]
 try (cases x;rfl)
theorem qH.l9(H:List j6)(x:qH):qH.of H x.cells=some x:=by rw[qH.jW];exact qH.kR H x
def qH.nL{x:qH}(h:qH.of H cs=some x):lQ H n cs x.cells:=by
 unfold qH.of at h;split at h
 ·simp only[fg,fi]at h;obtain⟨x0,h0,x1,h1,x2,h2,x3,h3,rfl⟩:=h;rw[qH.kP];exact(lQ.append (lQ.append (lQ.append (lQ.cons (Rs h0) lQ.nil) (jX.nL h1)) (lQ.cons (uv h2) lQ.nil)) (lh.nL h3))
 ·cases h
def qH.kr:Ru qH:=⟨qH.cells,qH.of,fun _ _ _ _ h=>qH.nL h,qH.nb⟩
def qH.row:Row qH:=⟨qH.cells,qH.of [],15,fun _ _ h=>(qH.nL (n:=0) h).nI,qH.nb⟩
def qH.lZ(xs:List qH):qR (qH.of []) (mp qH.cells xs)=some xs:=yE (qH.l9 []) xs
def qH.sF:qH.row.enc=qH.cells/\qH.row.mK=qH.of []/\qH.row.sz=15/\qH.kr.enc=qH.cells/\qH.kr.mK=qH.of:=⟨rfl,rfl,rfl,rfl,rfl⟩
attribute [go_sem] qH.mZ qH.l9 qH.lZ qH.sF
def qH.Pt:(∀(y0:kp)(y1:jX)(y2:Int)(y3:lh),(qH.mk y0 y1 y2 y3).name=y0)/\(∀(y0:kp)(y1:jX)(y2:Int)(y3:lh),(qH.mk y0 y1 y2 y3).type=y1)/\(∀(y0:kp)(y1:jX)(y2:Int)(y3:lh),(qH.mk y0 y1 y2 y3).avO=y2)/\(∀(y0:kp)(y1:jX)(y2:Int)(y3:lh),(qH.mk y0 y1 y2 y3).tj=y3):=⟨fun _ _ _ _=>rfl,fun _ _ _ _=>rfl,fun _ _ _ _=>rfl,fun _ _ _ _=>rfl⟩
attribute [go_sem] qH.Pt
def qH.nbs:(∀(n:Nat)(x:qH),Go.Abs.ua n x.cells=True)/\∀(n:Nat)(xs:List qH),Go.Abs.alP n (mp qH.cells xs)=True:=⟨fun n x=>eq_true (qH.nb n x),fun n xs=>eq_true (mz (qH.nb n) xs)⟩
def qH.reads:
 (∀x:qH,cellsOf (.agg x.cells)=some x.cells)/\
 (∀x:qH,kq true 15 x.cells=some (.agg x.cells))/\
 (∀x:qH,kq false 1 x.cells=some (.str (sb x.name)))/\
 (∀x:qH,kq false 1 (x.cells.drop 1)=some (.int .i64 x.type.kind))/\
 (∀x:qH,kq false 1 (x.cells.drop 2)=some (.int .i64 x.type.index))/\
 (∀x:qH,kq false 1 (x.cells.drop 3)=some (.str (sb x.type.name)))/\
 (∀x:qH,kq false 1 (x.cells.drop 4)=some (.kJ false 2 (mp kE.cells x.type.kC)))/\
 (∀x:qH,kq false 1 (x.cells.drop 5)=some (.kJ false 5 (mp jX.cells x.type.lr)))/\
 (∀x:qH,kq false 1 (x.cells.drop 6)=some (.int .i64 x.avO))/\
 (∀x:qH,kq false 1 (x.cells.drop 7)=some (.int .i64 x.tj.kind))/\
 (∀x:qH,kq false 1 (x.cells.drop 8)=some (.int .i64 x.tj.body.kind))/\
 (∀x:qH,kq false 1 (x.cells.drop 9)=some (.int .i64 x.tj.body.index))/\
 (∀x:qH,kq false 1 (x.cells.drop 10)=some (.str (sb x.tj.body.name)))/\
 (∀x:qH,kq false 1 (x.cells.drop 11)=some (.kJ false 2 (mp kE.cells x.tj.body.kC)))/\
 (∀x:qH,kq false 1 (x.cells.drop 12)=some (.kJ false 5 (mp jX.cells x.tj.body.lr)))/\
 (∀x:qH,kq false 1 (x.cells.drop 13)=some (.int .i64 x.tj.var))/\
 (∀x:qH,kq false 1 (x.cells.drop 14)=some (.kJ false 10 (mp kw.cells x.tj.ol)))/\
 (∀x:qH,kq true 5 (x.cells.drop 1)=some (.agg x.type.cells))/\
 (∀x:qH,kq true 8 (x.cells.drop 7)=some (.agg x.tj.cells))/\
 (∀x:qH,kq true 5 (x.cells.drop 8)=some (.agg x.tj.body.cells)):=
 ⟨fun x=>by simp only[cellsOf,qH.lI,jN],
  fun x=>p5 (qH.length x),
  fun x=>by rw[qH.jW];rfl,
  fun x=>by rw[qH.jW];rfl,
  fun x=>by rw[qH.jW];rfl,
  fun x=>by rw[qH.jW];rfl,
  fun x=>by rw[qH.jW];rfl,
  fun x=>by rw[qH.jW];rfl,
  fun x=>by rw[qH.jW];rfl,
  fun x=>by rw[qH.jW];rfl,
  fun x=>by rw[qH.jW];rfl,
  fun x=>by rw[qH.jW];rfl,
  fun x=>by rw[qH.jW];rfl,
  fun x=>by rw[qH.jW];rfl,
  fun x=>by rw[qH.jW];rfl,
  fun x=>by rw[qH.jW];rfl,
  fun x=>by rw[qH.jW];rfl,
  fun x=>by rw[qH.jW];simp only[jX.jW,lh.jW,fk,fo];rfl,
  fun x=>by rw[qH.jW];simp only[jX.jW,lh.jW,fk,fo];rfl,
  fun x=>by rw[qH.jW];simp only[jX.jW,lh.jW,fk,fo];rfl⟩
attribute [go_sem] qH.nbs qH.reads qH.length qH.lI
structure ky where
 kind:Int
 name:kp
 params:Int
 type:jX
 value:jX
 Hr:Int
 qZ:List mL
 pd:kZ
 Al:List qH
def ky.cells(x:ky):List AV:=[.int .i64 x.kind,.str (sb x.name),.int .i64 x.params]++x.type.cells++x.value.cells++[.int .i64 x.Hr,.kJ false 6 (mp mL.cells x.qZ)]++x.pd.cells++[.kJ false 15 (mp qH.cells x.Al)]
theorem ky.kP(x:ky):x.cells=[.int .i64 x.kind,.str (sb x.name),.int .i64 x.params]++x.type.cells++x.value.cells++[.int .i64 x.Hr,.kJ false 6 (mp mL.cells x.qZ)]++x.pd.cells++[.kJ false 15 (mp qH.cells x.Al)]:=rfl
theorem ky.jW(x:ky):x.cells=[.int .i64 x.kind,.str (sb x.name),.int .i64 x.params,.int .i64 x.type.kind,.int .i64 x.type.index,.str (sb x.type.name),.kJ false 2 (mp kE.cells x.type.kC),.kJ false 5 (mp jX.cells x.type.lr),.int .i64 x.value.kind,.int .i64 x.value.index,.str (sb x.value.name),.kJ false 2 (mp kE.cells x.value.kC),.kJ false 5 (mp jX.cells x.value.lr),.int .i64 x.Hr,.kJ false 6 (mp mL.cells x.qZ),.int .i64 x.pd.params,.int .i64 x.pd.type.kind,.int .i64 x.pd.type.index,.str (sb x.pd.type.name),.kJ false 2 (mp kE.cells x.pd.type.kC),.kJ false 5 (mp jX.cells x.pd.type.lr),.kJ false 5 (mp jX.cells x.pd.yG),.kJ false 15 (mp qH.cells x.Al)]:=by
 simp only[ky.cells,kZ.jW,jX.jW,fp,fq,fw]
attribute [irreducible] ky.cells
theorem ky.length(x:ky):x.cells.length=23:=by rw[ky.jW];rfl
def ky.lI(x:ky):x.cells.all AV.lI=true:=by rw[ky.jW];rfl
theorem ky.nb(n:Nat)(x:ky):ua n x.cells:=by
 rw[ky.kP];exact(pE (pE (pE (pE (pE ⟨trivial,trivial,trivial,trivial⟩ (jX.nb n x.type)) (jX.nb n x.value)) ⟨trivial,mz (mL.nb n) _,trivial⟩) (kZ.nb n x.pd)) ⟨mz (qH.nb n) _,trivial⟩)
def ky.of(H:List j6):List AV->Option ky
 |[c0,c1,c2,c3,c4,c5,c6,c7,c8,c9,c10,c11,c12,c13,c14,c15,c16,c17,c18,c19,c20,c21,c22]=>(dI .i64 c0).bind fun x0=>(dS c1).bind fun x1=>(dI .i64 c2).bind fun x2=>(jX.of H [c3,c4,c5,c6,c7]).bind fun x3=>(jX.of H [c8,c9,c10,c11,c12]).bind fun x4=>(dI .i64 c13).bind fun x5=>(dL mL.row H c14).bind fun x6=>(kZ.of H [c15,c16,c17,c18,c19,c20,c21]).bind fun x7=>(dL qH.row H c22).bind fun x8=>some (.mk x0 x1 x2 x3 x4 x5 x6 x7 x8)
 |_=>none
def ky.mZ {c0 c1 c2 c3 c4 c5 c6 c14 c15 c16 c17 c18 c19 c20 c21 c22:AV}:ky.of H [c0,c1,c2,c3,c4,c5,c6,c7,c8,c9,c10,c11,c12,c13,c14,c15,c16,c17,c18,c19,c20,c21,c22]=(dI .i64 c0).bind fun x0=>(dS c1).bind fun x1=>(dI .i64 c2).bind fun x2=>(jX.of H [c3,c4,c5,c6,c7]).bind fun x3=>(jX.of H [c8,c9,c10,c11,c12]).bind fun x4=>(dI .i64 c13).bind fun x5=>(dL mL.row H c14).bind fun x6=>(kZ.of H [c15,c16,c17,c18,c19,c20,c21]).bind fun x7=>(dL qH.row H c22).bind fun x8=>some (.mk x0 x1 x2 x3 x4 x5 x6 x7 x8):=rfl
def ky.kR(H:List j6)(x:ky):ky.of H [.int .i64 x.kind,.str (sb x.name),.int .i64 x.params,.int .i64 x.type.kind,.int .i64 x.type.index,.str (sb x.type.name),.kJ false 2 (mp kE.cells x.type.kC),.kJ false 5 (mp jX.cells x.type.lr),.int .i64 x.value.kind,.int .i64 x.value.index,.str (sb x.value.name),.kJ false 2 (mp kE.cells x.value.kC),.kJ false 5 (mp jX.cells x.value.lr),.int .i64 x.Hr,.kJ false 6 (mp mL.cells x.qZ),.int .i64 x.pd.params,.int .i64 x.pd.type.kind,.int .i64 x.pd.type.index,.str (sb x.pd.type.name),.kJ false 2 (mp kE.cells x.pd.type.kC),.kJ false 5 (mp jX.cells x.pd.type.lr),.kJ false 5 (mp jX.cells x.pd.yG),.kJ false 15 (mp qH.cells x.Al)]=some x:=by
 simp only[ky.mZ,wu,sM,Bh,nN,zC,beq_self_eq_true,fm,jF,dL,mL.lZ,mL.row,qH.lZ,qH.row,kZ.kR,jX.kR]
 try (cases x;rfl)
theorem ky.l9(H:List j6)(x:ky):ky.of H x.cells=some x:=by rw[ky.jW];exact ky.kR H x
def ky.nL{x:ky}(h:ky.of H cs=some x):lQ H n cs x.cells:=by
 unfold ky.of at h;split at h
 ·simp only[fg,fi]at h;obtain⟨x0,h0,x1,h1,x2,h2,x3,h3,x4,h4,x5,h5,x6,h6,x7,h7,x8,h8,rfl⟩:=h;rw[ky.kP];exact(lQ.append (lQ.append (lQ.append (lQ.append (lQ.append (lQ.cons (uv h0) (lQ.cons (Rs h1) (lQ.cons (uv h2) lQ.nil))) (jX.nL h3)) (jX.nL h4)) (lQ.cons (uv h5) (lQ.cons (ww h6) lQ.nil))) (kZ.nL h7)) (lQ.cons (ww h8) lQ.nil))
 ·cases h
def ky.kr:Ru ky:=⟨ky.cells,ky.of,fun _ _ _ _ h=>ky.nL h,ky.nb⟩
def ky.row:Row ky:=⟨ky.cells,ky.of [],23,fun _ _ h=>(ky.nL (n:=0) h).nI,ky.nb⟩
def ky.lZ(xs:List ky):qR (ky.of []) (mp ky.cells xs)=some xs:=yE (ky.l9 []) xs
def ky.sF:ky.row.enc=ky.cells/\ky.row.mK=ky.of []/\ky.row.sz=23/\ky.kr.enc=ky.cells/\ky.kr.mK=ky.of:=⟨rfl,rfl,rfl,rfl,rfl⟩
def ky.eta(x:ky):ky.mk x.kind x.name x.params x.type x.value x.Hr x.qZ x.pd x.Al=x:=by cases x;rfl
attribute [go_sem] ky.mZ ky.l9 ky.lZ ky.sF ky.eta
def ky.Pt:(∀(y0:Int)(y1:kp)(y2:Int)(y3:jX)(y4:jX)(y5:Int)(y6:List mL)(y7:kZ)(y8:List qH),(ky.mk y0 y1 y2 y3 y4 y5 y6 y7 y8).kind=y0)/\(∀(y0:Int)(y1:kp)(y2:Int)(y3:jX)(y4:jX)(y5:Int)(y6:List mL)(y7:kZ)(y8:List qH),(ky.mk y0 y1 y2 y3 y4 y5 y6 y7 y8).name=y1)/\(∀(y0:Int)(y1:kp)(y2:Int)(y3:jX)(y4:jX)(y5:Int)(y6:List mL)(y7:kZ)(y8:List qH),(ky.mk y0 y1 y2 y3 y4 y5 y6 y7 y8).params=y2)/\(∀(y0:Int)(y1:kp)(y2:Int)(y3:jX)(y4:jX)(y5:Int)(y6:List mL)(y7:kZ)(y8:List qH),(ky.mk y0 y1 y2 y3 y4 y5 y6 y7 y8).type=y3)/\(∀(y0:Int)(y1:kp)(y2:Int)(y3:jX)(y4:jX)(y5:Int)(y6:List mL)(y7:kZ)(y8:List qH),(ky.mk y0 y1 y2 y3 y4 y5 y6 y7 y8).value=y4)/\(∀(y0:Int)(y1:kp)(y2:Int)(y3:jX)(y4:jX)(y5:Int)(y6:List mL)(y7:kZ)(y8:List qH),(ky.mk y0 y1 y2 y3 y4 y5 y6 y7 y8).Hr=y5)/\(∀(y0:Int)(y1:kp)(y2:Int)(y3:jX)(y4:jX)(y5:Int)(y6:List mL)(y7:kZ)(y8:List qH),(ky.mk y0 y1 y2 y3 y4 y5 y6 y7 y8).qZ=y6)/\(∀(y0:Int)(y1:kp)(y2:Int)(y3:jX)(y4:jX)(y5:Int)(y6:List mL)(y7:kZ)(y8:List qH),(ky.mk y0 y1 y2 y3 y4 y5 y6 y7 y8).pd=y7)/\(∀(y0:Int)(y1:kp)(y2:Int)(y3:jX)(y4:jX)(y5:Int)(y6:List mL)(y7:kZ)(y8:List qH),(ky.mk y0 y1 y2 y3 y4 y5 y6 y7 y8).Al=y8):=⟨fun _ _ _ _ _ _ _ _ _=>rfl,fun _ _ _ _ _ _ _ _ _=>rfl,fun _ _ _ _ _ _ _ _ _=>rfl,fun _ _ _ _ _ _ _ _ _=>rfl,fun _ _ _ _ _ _ _ _ _=>rfl,fun _ _ _ _ _ _ _ _ _=>rfl,fun _ _ _ _ _ _ _ _ _=>rfl,fun _ _ _ _ _ _ _ _ _=>rfl,fun _ _ _ _ _ _ _ _ _=>rfl⟩
attribute [go_sem] ky.Pt
def ky.nbs:(∀(n:Nat)(x:ky),Go.Abs.ua n x.cells=True)/\∀(n:Nat)(xs:List ky),Go.Abs.alP n (mp ky.cells xs)=True:=⟨fun n x=>eq_true (ky.nb n x),fun n xs=>eq_true (mz (ky.nb n) xs)⟩
def ky.vw(H:List j6)(x:ky):vwL H x.cells=some (x.cells,[]):=yF H _ (ky.nb 0 x)
attribute [go_sem] ky.vw
def ky.reads:
 (∀x:ky,cellsOf (.agg x.cells)=some x.cells)/\
 (∀x:ky,kq true 23 x.cells=some (.agg x.cells))/\
 (∀x:ky,kq false 1 x.cells=some (.int .i64 x.kind))/\
 (∀x:ky,kq false 1 (x.cells.drop 1)=some (.str (sb x.name)))/\
 (∀x:ky,kq false 1 (x.cells.drop 2)=some (.int .i64 x.params))/\
 (∀x:ky,kq false 1 (x.cells.drop 3)=some (.int .i64 x.type.kind))/\
 (∀x:ky,kq false 1 (x.cells.drop 4)=some (.int .i64 x.type.index))/\
 (∀x:ky,kq false 1 (x.cells.drop 5)=some (.str (sb x.type.name)))/\
 (∀x:ky,kq false 1 (x.cells.drop 6)=some (.kJ false 2 (mp kE.cells x.type.kC)))/\
 (∀x:ky,kq false 1 (x.cells.drop 7)=some (.kJ false 5 (mp jX.cells x.type.lr)))/\
 (∀x:ky,kq false 1 (x.cells.drop 8)=some (.int .i64 x.value.kind))/\
 (∀x:ky,kq false 1 (x.cells.drop 9)=some (.int .i64 x.value.index))/\
 (∀x:ky,kq false 1 (x.cells.drop 10)=some (.str (sb x.value.name)))/\
 (∀x:ky,kq false 1 (x.cells.drop 11)=some (.kJ false 2 (mp kE.cells x.value.kC)))/\
 (∀x:ky,kq false 1 (x.cells.drop 12)=some (.kJ false 5 (mp jX.cells x.value.lr)))/\
 (∀x:ky,kq false 1 (x.cells.drop 13)=some (.int .i64 x.Hr))/\
 (∀x:ky,kq false 1 (x.cells.drop 14)=some (.kJ false 6 (mp mL.cells x.qZ)))/\
 (∀x:ky,kq false 1 (x.cells.drop 15)=some (.int .i64 x.pd.params))/\
 (∀x:ky,kq false 1 (x.cells.drop 16)=some (.int .i64 x.pd.type.kind))/\
 (∀x:ky,kq false 1 (x.cells.drop 17)=some (.int .i64 x.pd.type.index))/\
 (∀x:ky,kq false 1 (x.cells.drop 18)=some (.str (sb x.pd.type.name)))/\
 (∀x:ky,kq false 1 (x.cells.drop 19)=some (.kJ false 2 (mp kE.cells x.pd.type.kC)))/\
 (∀x:ky,kq false 1 (x.cells.drop 20)=some (.kJ false 5 (mp jX.cells x.pd.type.lr)))/\
 (∀x:ky,kq false 1 (x.cells.drop 21)=some (.kJ false 5 (mp jX.cells x.pd.yG)))/\
 (∀x:ky,kq false 1 (x.cells.drop 22)=some (.kJ false 15 (mp qH.cells x.Al)))/\
 (∀x:ky,kq true 5 (x.cells.drop 3)=some (.agg x.type.cells))/\
 (∀x:ky,kq true 5 (x.cells.drop 8)=some (.agg x.value.cells))/\
 (∀x:ky,kq true 7 (x.cells.drop 15)=some (.agg x.pd.cells))/\
 (∀x:ky,kq true 5 (x.cells.drop 16)=some (.agg x.pd.type.cells)):=
 ⟨fun x=>by simp only[cellsOf,ky.lI,jN],
  fun x=>p5 (ky.length x),
  fun x=>by rw[ky.jW];rfl,
  fun x=>by rw[ky.jW];rfl,
  fun x=>by rw[ky.jW];rfl,
  fun x=>by rw[ky.jW];rfl,
  fun x=>by rw[ky.jW];rfl,
  fun x=>by rw[ky.jW];rfl,
  fun x=>by rw[ky.jW];rfl,
  fun x=>by rw[ky.jW];rfl,
  fun x=>by rw[ky.jW];rfl,
  fun x=>by rw[ky.jW];rfl,
  fun x=>by rw[ky.jW];rfl,
  fun x=>by rw[ky.jW];rfl,
  fun x=>by rw[ky.jW];rfl,
  fun x=>by rw[ky.jW];rfl,
  fun x=>by rw[ky.jW];rfl,
  fun x=>by rw[ky.jW];rfl,
  fun x=>by rw[ky.jW];rfl,
  fun x=>by rw[ky.jW];rfl,
  fun x=>by rw[ky.jW];rfl,
  fun x=>by rw[ky.jW];rfl,
  fun x=>by rw[ky.jW];rfl,
  fun x=>by rw[ky.jW];rfl,
  fun x=>by rw[ky.jW];rfl,
  fun x=>by rw[ky.jW];simp only[kZ.jW,jX.jW,fk,fo];rfl,
  fun x=>by rw[ky.jW];simp only[kZ.jW,jX.jW,fk,fo];rfl,
  fun x=>by rw[ky.jW];simp only[kZ.jW,jX.jW,fk,fo];rfl,
  fun x=>by rw[ky.jW];simp only[kZ.jW,jX.jW,fk,fo];rfl⟩
def ky.cns(x:ky)(c:AV):c::x.cells=[c,.int .i64 x.kind,.str (sb x.name),.int .i64 x.params,.int .i64 x.type.kind,.int .i64 x.type.index,.str (sb x.type.name),.kJ false 2 (mp kE.cells x.type.kC),.kJ false 5 (mp jX.cells x.type.lr),.int .i64 x.value.kind,.int .i64 x.value.index,.str (sb x.value.name),.kJ false 2 (mp kE.cells x.value.kC),.kJ false 5 (mp jX.cells x.value.lr),.int .i64 x.Hr,.kJ false 6 (mp mL.cells x.qZ),.int .i64 x.pd.params,.int .i64 x.pd.type.kind,.int .i64 x.pd.type.index,.str (sb x.pd.type.name),.kJ false 2 (mp kE.cells x.pd.type.kC),.kJ false 5 (mp jX.cells x.pd.type.lr),.kJ false 5 (mp jX.cells x.pd.yG),.kJ false 15 (mp qH.cells x.Al)]:=by rw[ky.jW]
attribute [go_sem] ky.cns ky.nbs ky.reads ky.length ky.lI
structure kF where
 name:kp
 avP:List Int
def kF.cells(x:kF):List AV:=[.str (sb x.name),.kJ false 1 (mp LP x.avP)]
theorem kF.kP(x:kF):x.cells=[.str (sb x.name),.kJ false 1 (mp LP x.avP)]:=rfl
theorem kF.jW(x:kF):x.cells=[.str (sb x.name),.kJ false 1 (mp LP x.avP)]:=rfl
attribute [irreducible] kF.cells
theorem kF.length(x:kF):x.cells.length=2:=by rw[kF.jW];rfl
theorem kF.nb(n:Nat)(x:kF):ua n x.cells:=by
 rw[kF.kP];exact⟨trivial,mz (avL n) _,trivial⟩
def kF.of(H:List j6):List AV->Option kF
 |[c0,c1]=>(dS c0).bind fun x0=>(dL Rt H c1).bind fun x1=>some (.mk x0 x1)
 |_=>none
def kF.mZ{c0 c1:AV}:kF.of H [c0,c1]=(dS c0).bind fun x0=>(dL Rt H c1).bind fun x1=>some (.mk x0 x1):=rfl
def kF.kR(H:List j6)(x:kF):kF.of H [.str (sb x.name),.kJ false 1 (mp LP x.avP)]=some x:=by
 simp only[kF.mZ,wu,sM,Bh,nN,zC,beq_self_eq_true,fm,jF,dL,xk,aJI]
 try (cases x;rfl)
theorem kF.l9(H:List j6)(x:kF):kF.of H x.cells=some x:=by rw[kF.jW];exact kF.kR H x
def kF.nL{x:kF}(h:kF.of H cs=some x):lQ H n cs x.cells:=by
 unfold kF.of at h;split at h
 ·simp only[fg,fi]at h;obtain⟨x0,h0,x1,h1,rfl⟩:=h;rw[kF.kP];exact(lQ.cons (Rs h0) (lQ.cons (ww h1) lQ.nil))
 ·cases h
def kF.kr:Ru kF:=⟨kF.cells,kF.of,fun _ _ _ _ h=>kF.nL h,kF.nb⟩
def kF.row:Row kF:=⟨kF.cells,kF.of [],2,fun _ _ h=>(kF.nL (n:=0) h).nI,kF.nb⟩
def kF.lZ(xs:List kF):qR (kF.of []) (mp kF.cells xs)=some xs:=yE (kF.l9 []) xs
def kF.sF:kF.row.enc=kF.cells/\kF.row.mK=kF.of []/\kF.row.sz=2/\kF.kr.enc=kF.cells/\kF.kr.mK=kF.of:=⟨rfl,rfl,rfl,rfl,rfl⟩
attribute [go_sem] kF.mZ kF.l9 kF.lZ kF.sF
def kF.Pt:(∀(y0:kp)(y1:List Int),(kF.mk y0 y1).name=y0)/\(∀(y0:kp)(y1:List Int),(kF.mk y0 y1).avP=y1):=⟨fun _ _=>rfl,fun _ _=>rfl⟩
attribute [go_sem] kF.Pt
def kF.nbs:(∀(n:Nat)(x:kF),Go.Abs.ua n x.cells=True)/\∀(n:Nat)(xs:List kF),Go.Abs.alP n (mp kF.cells xs)=True:=⟨fun n x=>eq_true (kF.nb n x),fun n xs=>eq_true (mz (kF.nb n) xs)⟩
attribute [go_sem] kF.nbs kF.length
structure kI where
 env:List ky
 uh:List kF
 zE:List kp
 instances:List kp
 pZ:List jS
 qz:List kp
 opens:List kp
def kI.cells(x:kI):List AV:=[.kJ false 23 (mp ky.cells x.env),.kJ false 2 (mp kF.cells x.uh),.kJ false 1 (mp kS x.zE),.kJ false 1 (mp kS x.instances),.kJ false 4 (mp jS.cells x.pZ),.kJ false 1 (mp kS x.qz),.kJ false 1 (mp kS x.opens)]
theorem kI.kP(x:kI):x.cells=[.kJ false 23 (mp ky.cells x.env),.kJ false 2 (mp kF.cells x.uh),.kJ false 1 (mp kS x.zE),.kJ false 1 (mp kS x.instances),.kJ false 4 (mp jS.cells x.pZ),.kJ false 1 (mp kS x.qz),.kJ false 1 (mp kS x.opens)]:=rfl
theorem kI.jW(x:kI):x.cells=[.kJ false 23 (mp ky.cells x.env),.kJ false 2 (mp kF.cells x.uh),.kJ false 1 (mp kS x.zE),.kJ false 1 (mp kS x.instances),.kJ false 4 (mp jS.cells x.pZ),.kJ false 1 (mp kS x.qz),.kJ false 1 (mp kS x.opens)]:=rfl
attribute [irreducible] kI.cells
theorem kI.length(x:kI):x.cells.length=7:=by rw[kI.jW];rfl
def kI.lI(x:kI):x.cells.all AV.lI=true:=by rw[kI.jW];rfl
theorem kI.nb(n:Nat)(x:kI):ua n x.cells:=by
 rw[kI.kP];exact⟨mz (ky.nb n) _,mz (kF.nb n) _,mz (wF n) _,mz (wF n) _,mz (jS.nb n) _,mz (wF n) _,mz (wF n) _,trivial⟩
def kI.of(H:List j6):List AV->Option kI
 |[c0,c1,c2,c3,c4,c5,c6]=>(dL ky.row H c0).bind fun x0=>(dL kF.row H c1).bind fun x1=>(dL kW H c2).bind fun x2=>(dL kW H c3).bind fun x3=>(dL jS.row H c4).bind fun x4=>(dL kW H c5).bind fun x5=>(dL kW H c6).bind fun x6=>some (.mk x0 x1 x2 x3 x4 x5 x6)
 |_=>none
def kI.mZ{c0 c1 c2 c3 c4 c5 c6:AV}:kI.of H [c0,c1,c2,c3,c4,c5,c6]=(dL ky.row H c0).bind fun x0=>(dL kF.row H c1).bind fun x1=>(dL kW H c2).bind fun x2=>(dL kW H c3).bind fun x3=>(dL jS.row H c4).bind fun x4=>(dL kW H c5).bind fun x5=>(dL kW H c6).bind fun x6=>some (.mk x0 x1 x2 x3 x4 x5 x6):=rfl
def kI.kR(H:List j6)(x:kI):kI.of H [.kJ false 23 (mp ky.cells x.env),.kJ false 2 (mp kF.cells x.uh),.kJ false 1 (mp kS x.zE),.kJ false 1 (mp kS x.instances),.kJ false 4 (mp jS.cells x.pZ),.kJ false 1 (mp kS x.qz),.kJ false 1 (mp kS x.opens)]=some x:=by
 simp only[kI.mZ,wu,sM,Bh,nN,zC,beq_self_eq_true,fm,jF,dL,ky.lZ,ky.row,kF.lZ,kF.row,jS.lZ,jS.row,xk,WK]
 try (cases x;rfl)
theorem kI.l9(H:List j6)(x:kI):kI.of H x.cells=some x:=by rw[kI.jW];exact kI.kR H x
def kI.nL{x:kI}(h:kI.of H cs=some x):lQ H n cs x.cells:=by
 unfold kI.of at h;split at h
 ·simp only[fg,fi]at h;obtain⟨x0,h0,x1,h1,x2,h2,x3,h3,x4,h4,x5,h5,x6,h6,rfl⟩:=h;rw[kI.kP];exact(lQ.cons (ww h0) (lQ.cons (ww h1) (lQ.cons (ww h2) (lQ.cons (ww h3) (lQ.cons (ww h4) (lQ.cons (ww h5) (lQ.cons (ww h6) lQ.nil)))))))
 ·cases h
def kI.kr:Ru kI:=⟨kI.cells,kI.of,fun _ _ _ _ h=>kI.nL h,kI.nb⟩
def kI.row:Row kI:=⟨kI.cells,kI.of [],7,fun _ _ h=>(kI.nL (n:=0) h).nI,kI.nb⟩
def kI.sF:kI.row.enc=kI.cells/\kI.row.mK=kI.of []/\kI.row.sz=7/\kI.kr.enc=kI.cells/\kI.kr.mK=kI.of:=⟨rfl,rfl,rfl,rfl,rfl⟩
def kI.eta(x:kI):kI.mk x.env x.uh x.zE x.instances x.pZ x.qz x.opens=x:=by cases x;rfl
attribute [go_sem] kI.mZ kI.l9 kI.sF kI.eta
def kI.Pt:(∀(y0:List ky)(y1:List kF)(y2:List kp)(y3:List kp)(y4:List jS)(y5:List kp)(y6:List kp),(kI.mk y0 y1 y2 y3 y4 y5 y6).env=y0)/\(∀(y0:List ky)(y1:List kF)(y2:List kp)(y3:List kp)(y4:List jS)(y5:List kp)(y6:List kp),(kI.mk y0 y1 y2 y3 y4 y5 y6).uh=y1)/\(∀(y0:List ky)(y1:List kF)(y2:List kp)(y3:List kp)(y4:List jS)(y5:List kp)(y6:List kp),(kI.mk y0 y1 y2 y3 y4 y5 y6).zE=y2)/\(∀(y0:List ky)(y1:List kF)(y2:List kp)(y3:List kp)(y4:List jS)(y5:List kp)(y6:List kp),(kI.mk y0 y1 y2 y3 y4 y5 y6).instances=y3)/\(∀(y0:List ky)(y1:List kF)(y2:List kp)(y3:List kp)(y4:List jS)(y5:List kp)(y6:List kp),(kI.mk y0 y1 y2 y3 y4 y5 y6).pZ=y4)/\(∀(y0:List ky)(y1:List kF)(y2:List kp)(y3:List kp)(y4:List jS)(y5:List kp)(y6:List kp),(kI.mk y0 y1 y2 y3 y4 y5 y6).qz=y5)/\(∀(y0:List ky)(y1:List kF)(y2:List kp)(y3:List kp)(y4:List jS)(y5:List kp)(y6:List kp),(kI.mk y0 y1 y2 y3 y4 y5 y6).opens=y6):=⟨fun _ _ _ _ _ _ _=>rfl,fun _ _ _ _ _ _ _=>rfl,fun _ _ _ _ _ _ _=>rfl,fun _ _ _ _ _ _ _=>rfl,fun _ _ _ _ _ _ _=>rfl,fun _ _ _ _ _ _ _=>rfl,fun _ _ _ _ _ _ _=>rfl⟩
attribute [go_sem] kI.Pt
def kI.nbs:(∀(n:Nat)(x:kI),Go.Abs.ua n x.cells=True)/\∀(n:Nat)(xs:List kI),Go.Abs.alP n (mp kI.cells xs)=True:=⟨fun n x=>eq_true (kI.nb n x),fun n xs=>eq_true (mz (kI.nb n) xs)⟩
def kI.afa:(∀(Y:Nat->Nat)(x:kI),sO Y x.cells=x.cells)/\∀(Y:Nat->Nat)(xs:List kI),FX Y (mp kI.cells xs)=mp kI.cells xs:=⟨fun Y x=>qI Y _ (kI.nb 0 x),fun Y xs=>uE Y _ (mz (kI.nb 0) xs)⟩
def kI.vw(H:List j6)(x:kI):vwL H x.cells=some (x.cells,[]):=yF H _ (kI.nb 0 x)
attribute [go_sem] kI.vw
def kI.rpv(l:Nat)(ds:List AV)(x:kI):x.cells.map (rpV l ds)=x.cells:=WN _ (kI.nb 0 x)
attribute [go_sem] kI.rpv
def kI.tk:(∀x:kI,List.take 7 x.cells=x.cells)/\∀x:kI,List.drop 7 x.cells=[]:=⟨fun x=>by rw[kI.jW];rfl,fun x=>by rw[kI.jW];rfl⟩
attribute [go_sem] kI.tk
def kI.reads:
 (∀x:kI,cellsOf (.agg x.cells)=some x.cells)/\
 (∀x:kI,kq true 7 x.cells=some (.agg x.cells))/\
 (∀x:kI,kq false 1 x.cells=some (.kJ false 23 (mp ky.cells x.env)))/\
 (∀x:kI,kq false 1 (x.cells.drop 1)=some (.kJ false 2 (mp kF.cells x.uh)))/\
 (∀x:kI,kq false 1 (x.cells.drop 2)=some (.kJ false 1 (mp kS x.zE)))/\
 (∀x:kI,kq false 1 (x.cells.drop 3)=some (.kJ false 1 (mp kS x.instances)))/\
 (∀x:kI,kq false 1 (x.cells.drop 4)=some (.kJ false 4 (mp jS.cells x.pZ)))/\
 (∀x:kI,kq false 1 (x.cells.drop 5)=some (.kJ false 1 (mp kS x.qz)))/\
 (∀x:kI,kq false 1 (x.cells.drop 6)=some (.kJ false 1 (mp kS x.opens))):=
 ⟨fun x=>by simp only[cellsOf,kI.lI,jN],
  fun x=>p5 (kI.length x),
  fun x=>by rw[kI.jW];rfl,
  fun x=>by rw[kI.jW];rfl,
  fun x=>by rw[kI.jW];rfl,
  fun x=>by rw[kI.jW];rfl,
  fun x=>by rw[kI.jW];rfl,
  fun x=>by rw[kI.jW];rfl,
  fun x=>by rw[kI.jW];rfl⟩
theorem kI.app(x:kI)(l:List AV):x.cells++l=(.kJ false 23 (mp ky.cells x.env):AV)::(.kJ false 2 (mp kF.cells x.uh):AV)::(.kJ false 1 (mp kS x.zE):AV)::(.kJ false 1 (mp kS x.instances):AV)::(.kJ false 4 (mp jS.cells x.pZ):AV)::(.kJ false 1 (mp kS x.qz):AV)::(.kJ false 1 (mp kS x.opens):AV)::l:=by rw[kI.jW];rfl
attribute [go_sem] kI.app kI.nbs kI.afa kI.reads kI.length kI.lI
structure kA where
 st:kI
 kC:List kp
 mF:List kp
 term:jX
def kA.cells(x:kA):List AV:=x.st.cells++[.kJ false 1 (mp kS x.kC),.kJ false 1 (mp kS x.mF)]++x.term.cells
theorem kA.kP(x:kA):x.cells=x.st.cells++[.kJ false 1 (mp kS x.kC),.kJ false 1 (mp kS x.mF)]++x.term.cells:=rfl
theorem kA.jW(x:kA):x.cells=[.kJ false 23 (mp ky.cells x.st.env),.kJ false 2 (mp kF.cells x.st.uh),.kJ false 1 (mp kS x.st.zE),.kJ false 1 (mp kS x.st.instances),.kJ false 4 (mp jS.cells x.st.pZ),.kJ false 1 (mp kS x.st.qz),.kJ false 1 (mp kS x.st.opens),.kJ false 1 (mp kS x.kC),.kJ false 1 (mp kS x.mF),.int .i64 x.term.kind,.int .i64 x.term.index,.str (sb x.term.name),.kJ false 2 (mp kE.cells x.term.kC),.kJ false 5 (mp jX.cells x.term.lr)]:=by
 simp only[kA.cells,kI.jW,jX.jW,fp,fq,fw]
attribute [irreducible] kA.cells
theorem kA.length(x:kA):x.cells.length=14:=by rw[kA.jW];rfl
def kA.lI(x:kA):x.cells.all AV.lI=true:=by rw[kA.jW];rfl
theorem kA.nb(n:Nat)(x:kA):ua n x.cells:=by
 rw[kA.kP];exact(pE (pE (kI.nb n x.st) ⟨mz (wF n) _,mz (wF n) _,trivial⟩) (jX.nb n x.term))
def kA.of(H:List j6):List AV->Option kA
 |[c0,c1,c2,c3,c4,c5,c6,c7,c8,c9,c10,c11,c12,c13]=>(kI.of H [c0,c1,c2,c3,c4,c5,c6]).bind fun x0=>(dL kW H c7).bind fun x1=>(dL kW H c8).bind fun x2=>(jX.of H [c9,c10,c11,c12,c13]).bind fun x3=>some (.mk x0 x1 x2 x3)
 |_=>none
def kA.mZ {c0 c1 c2 c3 c4 c5 c6:AV}:kA.of H [c0,c1,c2,c3,c4,c5,c6,c7,c8,c9,c10,c11,c12,c13]=(kI.of H [c0,c1,c2,c3,c4,c5,c6]).bind fun x0=>(dL kW H c7).bind fun x1=>(dL kW H c8).bind fun x2=>(jX.of H [c9,c10,c11,c12,c13]).bind fun x3=>some (.mk x0 x1 x2 x3):=rfl
def kA.kR(H:List j6)(x:kA):kA.of H [.kJ false 23 (mp ky.cells x.st.env),.kJ false 2 (mp kF.cells x.st.uh),.kJ false 1 (mp kS x.st.zE),.kJ false 1 (mp kS x.st.instances),.kJ false 4 (mp jS.cells x.st.pZ),.kJ false 1 (mp kS x.st.qz),.kJ false 1 (mp kS x.st.opens),.kJ false 1 (mp kS x.kC),.kJ false 1 (mp kS x.mF),.int .i64 x.term.kind,.int .i64 x.term.index,.str (sb x.term.name),.kJ false 2 (mp kE.cells x.term.kC),.kJ false 5 (mp jX.cells x.term.lr)]=some x:=by
 simp only[kA.mZ,wu,sM,Bh,nN,zC,beq_self_eq_true,fm,jF,dL,xk,WK,kI.kR,jX.kR]
 try (cases x;rfl)
theorem kA.l9(H:List j6)(x:kA):kA.of H x.cells=some x:=by rw[kA.jW];exact kA.kR H x
def kA.nL{x:kA}(h:kA.of H cs=some x):lQ H n cs x.cells:=by
 unfold kA.of at h;split at h
 ·simp only[fg,fi]at h;obtain⟨x0,h0,x1,h1,x2,h2,x3,h3,rfl⟩:=h;rw[kA.kP];exact(lQ.append (lQ.append (kI.nL h0) (lQ.cons (ww h1) (lQ.cons (ww h2) lQ.nil))) (jX.nL h3))
 ·cases h
def kA.kr:Ru kA:=⟨kA.cells,kA.of,fun _ _ _ _ h=>kA.nL h,kA.nb⟩
def kA.row:Row kA:=⟨kA.cells,kA.of [],14,fun _ _ h=>(kA.nL (n:=0) h).nI,kA.nb⟩
def kA.sF:kA.row.enc=kA.cells/\kA.row.mK=kA.of []/\kA.row.sz=14/\kA.kr.enc=kA.cells/\kA.kr.mK=kA.of:=⟨rfl,rfl,rfl,rfl,rfl⟩
attribute [go_sem] kA.mZ kA.l9 kA.sF
def kA.Pt:(∀(y0:kI)(y1:List kp)(y2:List kp)(y3:jX),(kA.mk y0 y1 y2 y3).st=y0)/\(∀(y0:kI)(y1:List kp)(y2:List kp)(y3:jX),(kA.mk y0 y1 y2 y3).kC=y1)/\(∀(y0:kI)(y1:List kp)(y2:List kp)(y3:jX),(kA.mk y0 y1 y2 y3).mF=y2)/\(∀(y0:kI)(y1:List kp)(y2:List kp)(y3:jX),(kA.mk y0 y1 y2 y3).term=y3):=⟨fun _ _ _ _=>rfl,fun _ _ _ _=>rfl,fun _ _ _ _=>rfl,fun _ _ _ _=>rfl⟩
attribute [go_sem] kA.Pt
def kA.vw(H:List j6)(x:kA):vwL H x.cells=some (x.cells,[]):=yF H _ (kA.nb 0 x)
attribute [go_sem] kA.vw
def kA.reads:
 (∀x:kA,cellsOf (.agg x.cells)=some x.cells)/\
 (∀x:kA,kq true 14 x.cells=some (.agg x.cells))/\
 (∀x:kA,kq false 1 x.cells=some (.kJ false 23 (mp ky.cells x.st.env)))/\
 (∀x:kA,kq false 1 (x.cells.drop 1)=some (.kJ false 2 (mp kF.cells x.st.uh)))/\
 (∀x:kA,kq false 1 (x.cells.drop 2)=some (.kJ false 1 (mp kS x.st.zE)))/\
 (∀x:kA,kq false 1 (x.cells.drop 3)=some (.kJ false 1 (mp kS x.st.instances)))/\
 (∀x:kA,kq false 1 (x.cells.drop 4)=some (.kJ false 4 (mp jS.cells x.st.pZ)))/\
 (∀x:kA,kq false 1 (x.cells.drop 5)=some (.kJ false 1 (mp kS x.st.qz)))/\
 (∀x:kA,kq false 1 (x.cells.drop 6)=some (.kJ false 1 (mp kS x.st.opens)))/\
 (∀x:kA,kq false 1 (x.cells.drop 7)=some (.kJ false 1 (mp kS x.kC)))/\
 (∀x:kA,kq false 1 (x.cells.drop 8)=some (.kJ false 1 (mp kS x.mF)))/\
 (∀x:kA,kq false 1 (x.cells.drop 9)=some (.int .i64 x.term.kind))/\
 (∀x:kA,kq false 1 (x.cells.drop 10)=some (.int .i64 x.term.index))/\
 (∀x:kA,kq false 1 (x.cells.drop 11)=some (.str (sb x.term.name)))/\
 (∀x:kA,kq false 1 (x.cells.drop 12)=some (.kJ false 2 (mp kE.cells x.term.kC)))/\
 (∀x:kA,kq false 1 (x.cells.drop 13)=some (.kJ false 5 (mp jX.cells x.term.lr)))/\
 (∀x:kA,kq true 7 x.cells=some (.agg x.st.cells))/\
 (∀x:kA,kq true 5 (x.cells.drop 9)=some (.agg x.term.cells)):=
 ⟨fun x=>by simp only[cellsOf,kA.lI,jN],
  fun x=>p5 (kA.length x),
  fun x=>by rw[kA.jW];rfl,
  fun x=>by rw[kA.jW];rfl,
  fun x=>by rw[kA.jW];rfl,
  fun x=>by rw[kA.jW];rfl,
  fun x=>by rw[kA.jW];rfl,
  fun x=>by rw[kA.jW];rfl,
  fun x=>by rw[kA.jW];rfl,
  fun x=>by rw[kA.jW];rfl,
  fun x=>by rw[kA.jW];rfl,
  fun x=>by rw[kA.jW];rfl,
  fun x=>by rw[kA.jW];rfl,
  fun x=>by rw[kA.jW];rfl,
  fun x=>by rw[kA.jW];rfl,
  fun x=>by rw[kA.jW];rfl,
  fun x=>by rw[kA.jW];simp only[kI.jW,jX.jW,fk,fo];rfl,
  fun x=>by rw[kA.jW];simp only[kI.jW,jX.jW,fk,fo];rfl⟩
attribute [go_sem] kA.reads kA.length kA.lI
structure Entry where
 kind:Int
 decl:Int
 aiT:Int
 params:Int
 type:jX
def Entry.cells(x:Entry):List AV:=[.int .i64 x.kind,.int .i64 x.decl,.int .i64 x.aiT,.int .i64 x.params]++x.type.cells
theorem Entry.kP(x:Entry):x.cells=[.int .i64 x.kind,.int .i64 x.decl,.int .i64 x.aiT,.int .i64 x.params]++x.type.cells:=rfl
theorem Entry.jW(x:Entry):x.cells=[.int .i64 x.kind,.int .i64 x.decl,.int .i64 x.aiT,.int .i64 x.params,.int .i64 x.type.kind,.int .i64 x.type.index,.str (sb x.type.name),.kJ false 2 (mp kE.cells x.type.kC),.kJ false 5 (mp jX.cells x.type.lr)]:=by
 simp only[Entry.cells,jX.jW,fp,fq,fw]
attribute [irreducible] Entry.cells
theorem Entry.length(x:Entry):x.cells.length=9:=by rw[Entry.jW];rfl
def Entry.lI(x:Entry):x.cells.all AV.lI=true:=by rw[Entry.jW];rfl
theorem Entry.nb(n:Nat)(x:Entry):ua n x.cells:=by
 rw[Entry.kP];exact(pE ⟨trivial,trivial,trivial,trivial,trivial⟩ (jX.nb n x.type))
def Entry.of(H:List j6):List AV->Option Entry
 |[c0,c1,c2,c3,c4,c5,c6,c7,c8]=>(dI .i64 c0).bind fun x0=>(dI .i64 c1).bind fun x1=>(dI .i64 c2).bind fun x2=>(dI .i64 c3).bind fun x3=>(jX.of H [c4,c5,c6,c7,c8]).bind fun x4=>some (.mk x0 x1 x2 x3 x4)
 |_=>none
def Entry.mZ {c0 c1 c2 c3 c4 c5 c6:AV}:Entry.of H [c0,c1,c2,c3,c4,c5,c6,c7,c8]=(dI .i64 c0).bind fun x0=>(dI .i64 c1).bind fun x1=>(dI .i64 c2).bind fun x2=>(dI .i64 c3).bind fun x3=>(jX.of H [c4,c5,c6,c7,c8]).bind fun x4=>some (.mk x0 x1 x2 x3 x4):=rfl
def Entry.kR(H:List j6)(x:Entry):Entry.of H [.int .i64 x.kind,.int .i64 x.decl,.int .i64 x.aiT,.int .i64 x.params,.int .i64 x.type.kind,.int .i64 x.type.index,.str (sb x.type.name),.kJ false 2 (mp kE.cells x.type.kC),.kJ false 5 (mp jX.cells x.type.lr)]=some x:=by
 simp only[Entry.mZ,wu,sM,Bh,nN,zC,beq_self_eq_true,fm,jF,dL,jX.kR]
 try (cases x;rfl)
theorem Entry.l9(H:List j6)(x:Entry):Entry.of H x.cells=some x:=by rw[Entry.jW];exact Entry.kR H x
def Entry.nL{x:Entry}(h:Entry.of H cs=some x):lQ H n cs x.cells:=by
 unfold Entry.of at h;split at h
 ·simp only[fg,fi]at h;obtain⟨x0,h0,x1,h1,x2,h2,x3,h3,x4,h4,rfl⟩:=h;rw[Entry.kP];exact(lQ.append (lQ.cons (uv h0) (lQ.cons (uv h1) (lQ.cons (uv h2) (lQ.cons (uv h3) lQ.nil)))) (jX.nL h4))
 ·cases h
def Entry.kr:Ru Entry:=⟨Entry.cells,Entry.of,fun _ _ _ _ h=>Entry.nL h,Entry.nb⟩
def Entry.row:Row Entry:=⟨Entry.cells,Entry.of [],9,fun _ _ h=>(Entry.nL (n:=0) h).nI,Entry.nb⟩
def Entry.sF:Entry.row.enc=Entry.cells/\Entry.row.mK=Entry.of []/\Entry.row.sz=9/\Entry.kr.enc=Entry.cells/\Entry.kr.mK=Entry.of:=⟨rfl,rfl,rfl,rfl,rfl⟩
attribute [go_sem] Entry.mZ Entry.l9 Entry.sF
def Entry.Pt:(∀(y0:Int)(y1:Int)(y2:Int)(y3:Int)(y4:jX),(Entry.mk y0 y1 y2 y3 y4).kind=y0)/\(∀(y0:Int)(y1:Int)(y2:Int)(y3:Int)(y4:jX),(Entry.mk y0 y1 y2 y3 y4).decl=y1)/\(∀(y0:Int)(y1:Int)(y2:Int)(y3:Int)(y4:jX),(Entry.mk y0 y1 y2 y3 y4).aiT=y2)/\(∀(y0:Int)(y1:Int)(y2:Int)(y3:Int)(y4:jX),(Entry.mk y0 y1 y2 y3 y4).params=y3)/\(∀(y0:Int)(y1:Int)(y2:Int)(y3:Int)(y4:jX),(Entry.mk y0 y1 y2 y3 y4).type=y4):=⟨fun _ _ _ _ _=>rfl,fun _ _ _ _ _=>rfl,fun _ _ _ _ _=>rfl,fun _ _ _ _ _=>rfl,fun _ _ _ _ _=>rfl⟩
attribute [go_sem] Entry.Pt
def Entry.nbs:(∀(n:Nat)(x:Entry),Go.Abs.ua n x.cells=True)/\∀(n:Nat)(xs:List Entry),Go.Abs.alP n (mp Entry.cells xs)=True:=⟨fun n x=>eq_true (Entry.nb n x),fun n xs=>eq_true (mz (Entry.nb n) xs)⟩
theorem Entry.frz(low:Nat)(H:List j6)(x:Entry):as8 low H x.cells=x.cells:=Lm low H _ (Entry.nb 0 x)
def Entry.reads:
 (∀x:Entry,cellsOf (.agg x.cells)=some x.cells)/\
 (∀x:Entry,kq true 9 x.cells=some (.agg x.cells))/\
 (∀x:Entry,kq false 1 x.cells=some (.int .i64 x.kind))/\
 (∀x:Entry,kq false 1 (x.cells.drop 1)=some (.int .i64 x.decl))/\
 (∀x:Entry,kq false 1 (x.cells.drop 2)=some (.int .i64 x.aiT))/\
 (∀x:Entry,kq false 1 (x.cells.drop 3)=some (.int .i64 x.params))/\
 (∀x:Entry,kq false 1 (x.cells.drop 4)=some (.int .i64 x.type.kind))/\
 (∀x:Entry,kq false 1 (x.cells.drop 5)=some (.int .i64 x.type.index))/\
 (∀x:Entry,kq false 1 (x.cells.drop 6)=some (.str (sb x.type.name)))/\
 (∀x:Entry,kq false 1 (x.cells.drop 7)=some (.kJ false 2 (mp kE.cells x.type.kC)))/\
 (∀x:Entry,kq false 1 (x.cells.drop 8)=some (.kJ false 5 (mp jX.cells x.type.lr)))/\
 (∀x:Entry,kq true 5 (x.cells.drop 4)=some (.agg x.type.cells)):=
 ⟨fun x=>by simp only[cellsOf,Entry.lI,jN],
  fun x=>p5 (Entry.length x),
  fun x=>by rw[Entry.jW];rfl,
  fun x=>by rw[Entry.jW];rfl,
  fun x=>by rw[Entry.jW];rfl,
  fun x=>by rw[Entry.jW];rfl,
  fun x=>by rw[Entry.jW];rfl,
  fun x=>by rw[Entry.jW];rfl,
  fun x=>by rw[Entry.jW];rfl,
  fun x=>by rw[Entry.jW];rfl,
  fun x=>by rw[Entry.jW];rfl,
  fun x=>by rw[Entry.jW];simp only[jX.jW,fk,fo];rfl⟩
attribute [go_sem] Entry.nbs Entry.frz Entry.reads Entry.length Entry.lI
structure kj where
 e:Int
 at_:Int
def kj.cells(x:kj):List AV:=[.int .i64 x.e,.int .i64 x.at_]
theorem kj.kP(x:kj):x.cells=[.int .i64 x.e,.int .i64 x.at_]:=rfl
theorem kj.jW(x:kj):x.cells=[.int .i64 x.e,.int .i64 x.at_]:=rfl
attribute [irreducible] kj.cells
theorem kj.length(x:kj):x.cells.length=2:=by rw[kj.jW];rfl
def kj.lI(x:kj):x.cells.all AV.lI=true:=by rw[kj.jW];rfl
theorem kj.nb(n:Nat)(x:kj):ua n x.cells:=by
 rw[kj.kP];exact⟨trivial,trivial,trivial⟩
def kj.of(H:List j6):List AV->Option kj
 |[c0,c1]=>(dI .i64 c0).bind fun x0=>(dI .i64 c1).bind fun x1=>some (.mk x0 x1)
 |_=>none
def kj.mZ{c0 c1:AV}:kj.of H [c0,c1]=(dI .i64 c0).bind fun x0=>(dI .i64 c1).bind fun x1=>some (.mk x0 x1):=rfl
def kj.kR(H:List j6)(x:kj):kj.of H [.int .i64 x.e,.int .i64 x.at_]=some x:=by
 simp only[kj.mZ,wu,sM,Bh,nN,zC,beq_self_eq_true,fm,jF,dL]
 try (cases x;rfl)
theorem kj.l9(H:List j6)(x:kj):kj.of H x.cells=some x:=by rw[kj.jW];exact kj.kR H x
def kj.nL{x:kj}(h:kj.of H cs=some x):lQ H n cs x.cells:=by
 unfold kj.of at h;split at h
 ·simp only[fg,fi]at h;obtain⟨x0,h0,x1,h1,rfl⟩:=h;rw[kj.kP];exact(lQ.cons (uv h0) (lQ.cons (uv h1) lQ.nil))
 ·cases h
def kj.kr:Ru kj:=⟨kj.cells,kj.of,fun _ _ _ _ h=>kj.nL h,kj.nb⟩
def kj.row:Row kj:=⟨kj.cells,kj.of [],2,fun _ _ h=>(kj.nL (n:=0) h).nI,kj.nb⟩
def kj.sF:kj.row.enc=kj.cells/\kj.row.mK=kj.of []/\kj.row.sz=2/\kj.kr.enc=kj.cells/\kj.kr.mK=kj.of:=⟨rfl,rfl,rfl,rfl,rfl⟩
attribute [go_sem] kj.mZ kj.l9 kj.sF
def kj.Pt:(∀(y0:Int)(y1:Int),(kj.mk y0 y1).e=y0)/\(∀(y0:Int)(y1:Int),(kj.mk y0 y1).at_=y1):=⟨fun _ _=>rfl,fun _ _=>rfl⟩
attribute [go_sem] kj.Pt
def kj.afa:(∀(Y:Nat->Nat)(x:kj),sO Y x.cells=x.cells)/\∀(Y:Nat->Nat)(xs:List kj),FX Y (mp kj.cells xs)=mp kj.cells xs:=⟨fun Y x=>qI Y _ (kj.nb 0 x),fun Y xs=>uE Y _ (mz (kj.nb 0) xs)⟩
def kj.vw(H:List j6)(x:kj):vwL H x.cells=some (x.cells,[]):=yF H _ (kj.nb 0 x)
attribute [go_sem] kj.vw
def kj.reads:
 (∀x:kj,cellsOf (.agg x.cells)=some x.cells)/\
 (∀x:kj,kq true 2 x.cells=some (.agg x.cells))/\
 (∀x:kj,kq false 1 x.cells=some (.int .i64 x.e))/\
 (∀x:kj,kq false 1 (x.cells.drop 1)=some (.int .i64 x.at_)):=
 ⟨fun x=>by simp only[cellsOf,kj.lI,jN],
  fun x=>p5 (kj.length x),
  fun x=>by rw[kj.jW];rfl,
  fun x=>by rw[kj.jW];rfl⟩
attribute [go_sem] kj.afa kj.reads kj.length kj.lI
structure j4 where
 st:kI
 yJ:List kp
 kC:List kp
 A7:List kp
 xK:List kp
def j4.cells(x:j4):List AV:=x.st.cells++[.kJ false 1 (mp kS x.yJ),.kJ false 1 (mp kS x.kC),.kJ false 1 (mp kS x.A7),.kJ false 1 (mp kS x.xK)]
theorem j4.kP(x:j4):x.cells=x.st.cells++[.kJ false 1 (mp kS x.yJ),.kJ false 1 (mp kS x.kC),.kJ false 1 (mp kS x.A7),.kJ false 1 (mp kS x.xK)]:=rfl
theorem j4.jW(x:j4):x.cells=[.kJ false 23 (mp ky.cells x.st.env),.kJ false 2 (mp kF.cells x.st.uh),.kJ false 1 (mp kS x.st.zE),.kJ false 1 (mp kS x.st.instances),.kJ false 4 (mp jS.cells x.st.pZ),.kJ false 1 (mp kS x.st.qz),.kJ false 1 (mp kS x.st.opens),.kJ false 1 (mp kS x.yJ),.kJ false 1 (mp kS x.kC),.kJ false 1 (mp kS x.A7),.kJ false 1 (mp kS x.xK)]:=by
 simp only[j4.cells,kI.jW,fp,fq,fw]
attribute [irreducible] j4.cells
theorem j4.length(x:j4):x.cells.length=11:=by rw[j4.jW];rfl
def j4.lI(x:j4):x.cells.all AV.lI=true:=by rw[j4.jW];rfl
theorem j4.nb(n:Nat)(x:j4):ua n x.cells:=by
 rw[j4.kP];exact(pE (kI.nb n x.st) ⟨mz (wF n) _,mz (wF n) _,mz (wF n) _,mz (wF n) _,trivial⟩)
def j4.of(H:List j6):List AV->Option j4
 |[c0,c1,c2,c3,c4,c5,c6,c7,c8,c9,c10]=>(kI.of H [c0,c1,c2,c3,c4,c5,c6]).bind fun x0=>(dL kW H c7).bind fun x1=>(dL kW H c8).bind fun x2=>(dL kW H c9).bind fun x3=>(dL kW H c10).bind fun x4=>some (.mk x0 x1 x2 x3 x4)
 |_=>none
def j4.mZ {c0 c1 c2 c3 c4 c5 c6:AV}:j4.of H [c0,c1,c2,c3,c4,c5,c6,c7,c8,c9,c10]=(kI.of H [c0,c1,c2,c3,c4,c5,c6]).bind fun x0=>(dL kW H c7).bind fun x1=>(dL kW H c8).bind fun x2=>(dL kW H c9).bind fun x3=>(dL kW H c10).bind fun x4=>some (.mk x0 x1 x2 x3 x4):=rfl
def j4.kR(H:List j6)(x:j4):j4.of H [.kJ false 23 (mp ky.cells x.st.env),.kJ false 2 (mp kF.cells x.st.uh),.kJ false 1 (mp kS x.st.zE),.kJ false 1 (mp kS x.st.instances),.kJ false 4 (mp jS.cells x.st.pZ),.kJ false 1 (mp kS x.st.qz),.kJ false 1 (mp kS x.st.opens),.kJ false 1 (mp kS x.yJ),.kJ false 1 (mp kS x.kC),.kJ false 1 (mp kS x.A7),.kJ false 1 (mp kS x.xK)]=some x:=by
 simp only[j4.mZ,wu,sM,Bh,nN,zC,beq_self_eq_true,fm,jF,dL,xk,WK,kI.kR]
 try (cases x;rfl)
theorem j4.l9(H:List j6)(x:j4):j4.of H x.cells=some x:=by rw[j4.jW];exact j4.kR H x
def j4.nL{x:j4}(h:j4.of H cs=some x):lQ H n cs x.cells:=by
 unfold j4.of at h;split at h
 ·simp only[fg,fi]at h;obtain⟨x0,h0,x1,h1,x2,h2,x3,h3,x4,h4,rfl⟩:=h;rw[j4.kP];exact(lQ.append (kI.nL h0) (lQ.cons (ww h1) (lQ.cons (ww h2) (lQ.cons (ww h3) (lQ.cons (ww h4) lQ.nil)))))
 ·cases h
def j4.kr:Ru j4:=⟨j4.cells,j4.of,fun _ _ _ _ h=>j4.nL h,j4.nb⟩
def j4.row:Row j4:=⟨j4.cells,j4.of [],11,fun _ _ h=>(j4.nL (n:=0) h).nI,j4.nb⟩
def j4.sF:j4.row.enc=j4.cells/\j4.row.mK=j4.of []/\j4.row.sz=11/\j4.kr.enc=j4.cells/\j4.kr.mK=j4.of:=⟨rfl,rfl,rfl,rfl,rfl⟩
attribute [go_sem] j4.mZ j4.l9 j4.sF
def j4.Pt:(∀(y0:kI)(y1:List kp)(y2:List kp)(y3:List kp)(y4:List kp),(j4.mk y0 y1 y2 y3 y4).st=y0)/\(∀(y0:kI)(y1:List kp)(y2:List kp)(y3:List kp)(y4:List kp),(j4.mk y0 y1 y2 y3 y4).yJ=y1)/\(∀(y0:kI)(y1:List kp)(y2:List kp)(y3:List kp)(y4:List kp),(j4.mk y0 y1 y2 y3 y4).kC=y2)/\(∀(y0:kI)(y1:List kp)(y2:List kp)(y3:List kp)(y4:List kp),(j4.mk y0 y1 y2 y3 y4).A7=y3)/\(∀(y0:kI)(y1:List kp)(y2:List kp)(y3:List kp)(y4:List kp),(j4.mk y0 y1 y2 y3 y4).xK=y4):=⟨fun _ _ _ _ _=>rfl,fun _ _ _ _ _=>rfl,fun _ _ _ _ _=>rfl,fun _ _ _ _ _=>rfl,fun _ _ _ _ _=>rfl⟩
attribute [go_sem] j4.Pt
def j4.nbs:(∀(n:Nat)(x:j4),Go.Abs.ua n x.cells=True)/\∀(n:Nat)(xs:List j4),Go.Abs.alP n (mp j4.cells xs)=True:=⟨fun n x=>eq_true (j4.nb n x),fun n xs=>eq_true (mz (j4.nb n) xs)⟩
def j4.reads:
 (∀x:j4,cellsOf (.agg x.cells)=some x.cells)/\
 (∀x:j4,kq true 11 x.cells=some (.agg x.cells))/\
 (∀x:j4,kq false 1 x.cells=some (.kJ false 23 (mp ky.cells x.st.env)))/\
 (∀x:j4,kq false 1 (x.cells.drop 1)=some (.kJ false 2 (mp kF.cells x.st.uh)))/\
 (∀x:j4,kq false 1 (x.cells.drop 2)=some (.kJ false 1 (mp kS x.st.zE)))/\
 (∀x:j4,kq false 1 (x.cells.drop 3)=some (.kJ false 1 (mp kS x.st.instances)))/\
 (∀x:j4,kq false 1 (x.cells.drop 4)=some (.kJ false 4 (mp jS.cells x.st.pZ)))/\
 (∀x:j4,kq false 1 (x.cells.drop 5)=some (.kJ false 1 (mp kS x.st.qz)))/\
 (∀x:j4,kq false 1 (x.cells.drop 6)=some (.kJ false 1 (mp kS x.st.opens)))/\
 (∀x:j4,kq false 1 (x.cells.drop 7)=some (.kJ false 1 (mp kS x.yJ)))/\
 (∀x:j4,kq false 1 (x.cells.drop 8)=some (.kJ false 1 (mp kS x.kC)))/\
 (∀x:j4,kq false 1 (x.cells.drop 9)=some (.kJ false 1 (mp kS x.A7)))/\
 (∀x:j4,kq false 1 (x.cells.drop 10)=some (.kJ false 1 (mp kS x.xK)))/\
 (∀x:j4,kq true 7 x.cells=some (.agg x.st.cells)):=
 ⟨fun x=>by simp only[cellsOf,j4.lI,jN],
  fun x=>p5 (j4.length x),
  fun x=>by rw[j4.jW];rfl,
  fun x=>by rw[j4.jW];rfl,
  fun x=>by rw[j4.jW];rfl,
  fun x=>by rw[j4.jW];rfl,
  fun x=>by rw[j4.jW];rfl,
  fun x=>by rw[j4.jW];rfl,
  fun x=>by rw[j4.jW];rfl,
  fun x=>by rw[j4.jW];rfl,
  fun x=>by rw[j4.jW];rfl,
  fun x=>by rw[j4.jW];rfl,
  fun x=>by rw[j4.jW];rfl,
  fun x=>by rw[j4.jW];simp only[kI.jW,fk,fo];rfl⟩
attribute [go_sem] j4.nbs j4.reads j4.length j4.lI
structure j9 where
 st:kI
 kC:List kp
 A7:List kp
 xK:List kp
def j9.cells(x:j9):List AV:=x.st.cells++[.kJ false 1 (mp kS x.kC),.kJ false 1 (mp kS x.A7),.kJ false 1 (mp kS x.xK)]
theorem j9.kP(x:j9):x.cells=x.st.cells++[.kJ false 1 (mp kS x.kC),.kJ false 1 (mp kS x.A7),.kJ false 1 (mp kS x.xK)]:=rfl
theorem j9.jW(x:j9):x.cells=[.kJ false 23 (mp ky.cells x.st.env),.kJ false 2 (mp kF.cells x.st.uh),.kJ false 1 (mp kS x.st.zE),.kJ false 1 (mp kS x.st.instances),.kJ false 4 (mp jS.cells x.st.pZ),.kJ false 1 (mp kS x.st.qz),.kJ false 1 (mp kS x.st.opens),.kJ false 1 (mp kS x.kC),.kJ false 1 (mp kS x.A7),.kJ false 1 (mp kS x.xK)]:=by
 simp only[j9.cells,kI.jW,fp,fq,fw]
attribute [irreducible] j9.cells
theorem j9.length(x:j9):x.cells.length=10:=by rw[j9.jW];rfl
def j9.lI(x:j9):x.cells.all AV.lI=true:=by rw[j9.jW];rfl
theorem j9.nb(n:Nat)(x:j9):ua n x.cells:=by
 rw[j9.kP];exact(pE (kI.nb n x.st) ⟨mz (wF n) _,mz (wF n) _,mz (wF n) _,trivial⟩)
def j9.of(H:List j6):List AV->Option j9
 |[c0,c1,c2,c3,c4,c5,c6,c7,c8,c9]=>(kI.of H [c0,c1,c2,c3,c4,c5,c6]).bind fun x0=>(dL kW H c7).bind fun x1=>(dL kW H c8).bind fun x2=>(dL kW H c9).bind fun x3=>some (.mk x0 x1 x2 x3)
 |_=>none
def j9.mZ {c0 c1 c2 c3 c4 c5 c6:AV}:j9.of H [c0,c1,c2,c3,c4,c5,c6,c7,c8,c9]=(kI.of H [c0,c1,c2,c3,c4,c5,c6]).bind fun x0=>(dL kW H c7).bind fun x1=>(dL kW H c8).bind fun x2=>(dL kW H c9).bind fun x3=>some (.mk x0 x1 x2 x3):=rfl
def j9.kR(H:List j6)(x:j9):j9.of H [.kJ false 23 (mp ky.cells x.st.env),.kJ false 2 (mp kF.cells x.st.uh),.kJ false 1 (mp kS x.st.zE),.kJ false 1 (mp kS x.st.instances),.kJ false 4 (mp jS.cells x.st.pZ),.kJ false 1 (mp kS x.st.qz),.kJ false 1 (mp kS x.st.opens),.kJ false 1 (mp kS x.kC),.kJ false 1 (mp kS x.A7),.kJ false 1 (mp kS x.xK)]=some x:=by
 simp only[j9.mZ,wu,sM,Bh,nN,zC,beq_self_eq_true,fm,jF,dL,xk,WK,kI.kR]
 try (cases x;rfl)
theorem j9.l9(H:List j6)(x:j9):j9.of H x.cells=some x:=by rw[j9.jW];exact j9.kR H x
def j9.nL{x:j9}(h:j9.of H cs=some x):lQ H n cs x.cells:=by
 unfold j9.of at h;split at h
 ·simp only[fg,fi]at h;obtain⟨x0,h0,x1,h1,x2,h2,x3,h3,rfl⟩:=h;rw[j9.kP];exact(lQ.append (kI.nL h0) (lQ.cons (ww h1) (lQ.cons (ww h2) (lQ.cons (ww h3) lQ.nil))))
 ·cases h
def j9.kr:Ru j9:=⟨j9.cells,j9.of,fun _ _ _ _ h=>j9.nL h,j9.nb⟩
def j9.row:Row j9:=⟨j9.cells,j9.of [],10,fun _ _ h=>(j9.nL (n:=0) h).nI,j9.nb⟩
def j9.sF:j9.row.enc=j9.cells/\j9.row.mK=j9.of []/\j9.row.sz=10/\j9.kr.enc=j9.cells/\j9.kr.mK=j9.of:=⟨rfl,rfl,rfl,rfl,rfl⟩
attribute [go_sem] j9.mZ j9.l9 j9.sF
def j9.Pt:(∀(y0:kI)(y1:List kp)(y2:List kp)(y3:List kp),(j9.mk y0 y1 y2 y3).st=y0)/\(∀(y0:kI)(y1:List kp)(y2:List kp)(y3:List kp),(j9.mk y0 y1 y2 y3).kC=y1)/\(∀(y0:kI)(y1:List kp)(y2:List kp)(y3:List kp),(j9.mk y0 y1 y2 y3).A7=y2)/\(∀(y0:kI)(y1:List kp)(y2:List kp)(y3:List kp),(j9.mk y0 y1 y2 y3).xK=y3):=⟨fun _ _ _ _=>rfl,fun _ _ _ _=>rfl,fun _ _ _ _=>rfl,fun _ _ _ _=>rfl⟩
attribute [go_sem] j9.Pt
def j9.nbs:(∀(n:Nat)(x:j9),Go.Abs.ua n x.cells=True)/\∀(n:Nat)(xs:List j9),Go.Abs.alP n (mp j9.cells xs)=True:=⟨fun n x=>eq_true (j9.nb n x),fun n xs=>eq_true (mz (j9.nb n) xs)⟩
def j9.vw(H:List j6)(x:j9):vwL H x.cells=some (x.cells,[]):=yF H _ (j9.nb 0 x)
attribute [go_sem] j9.vw
def j9.reads:
 (∀x:j9,cellsOf (.agg x.cells)=some x.cells)/\
 (∀x:j9,kq true 10 x.cells=some (.agg x.cells))/\
 (∀x:j9,kq false 1 x.cells=some (.kJ false 23 (mp ky.cells x.st.env)))/\
 (∀x:j9,kq false 1 (x.cells.drop 1)=some (.kJ false 2 (mp kF.cells x.st.uh)))/\
 (∀x:j9,kq false 1 (x.cells.drop 2)=some (.kJ false 1 (mp kS x.st.zE)))/\
 (∀x:j9,kq false 1 (x.cells.drop 3)=some (.kJ false 1 (mp kS x.st.instances)))/\
 (∀x:j9,kq false 1 (x.cells.drop 4)=some (.kJ false 4 (mp jS.cells x.st.pZ)))/\
 (∀x:j9,kq false 1 (x.cells.drop 5)=some (.kJ false 1 (mp kS x.st.qz)))/\
 (∀x:j9,kq false 1 (x.cells.drop 6)=some (.kJ false 1 (mp kS x.st.opens)))/\
 (∀x:j9,kq false 1 (x.cells.drop 7)=some (.kJ false 1 (mp kS x.kC)))/\
 (∀x:j9,kq false 1 (x.cells.drop 8)=some (.kJ false 1 (mp kS x.A7)))/\
 (∀x:j9,kq false 1 (x.cells.drop 9)=some (.kJ false 1 (mp kS x.xK)))/\
 (∀x:j9,kq true 7 x.cells=some (.agg x.st.cells)):=
 ⟨fun x=>by simp only[cellsOf,j9.lI,jN],
  fun x=>p5 (j9.length x),
  fun x=>by rw[j9.jW];rfl,
  fun x=>by rw[j9.jW];rfl,
  fun x=>by rw[j9.jW];rfl,
  fun x=>by rw[j9.jW];rfl,
  fun x=>by rw[j9.jW];rfl,
  fun x=>by rw[j9.jW];rfl,
  fun x=>by rw[j9.jW];rfl,
  fun x=>by rw[j9.jW];rfl,
  fun x=>by rw[j9.jW];rfl,
  fun x=>by rw[j9.jW];rfl,
  fun x=>by rw[j9.jW];simp only[kI.jW,fk,fo];rfl⟩
attribute [go_sem] j9.nbs j9.reads j9.length j9.lI
structure lD where
 kind:Int
 text:kp
 at_:Int
def lD.cells(x:lD):List AV:=[.int .i64 x.kind,.str (sb x.text),.int .i64 x.at_]
theorem lD.kP(x:lD):x.cells=[.int .i64 x.kind,.str (sb x.text),.int .i64 x.at_]:=rfl
theorem lD.jW(x:lD):x.cells=[.int .i64 x.kind,.str (sb x.text),.int .i64 x.at_]:=rfl
attribute [irreducible] lD.cells
theorem lD.length(x:lD):x.cells.length=3:=by rw[lD.jW];rfl
def lD.lI(x:lD):x.cells.all AV.lI=true:=by rw[lD.jW];rfl
theorem lD.nb(n:Nat)(x:lD):ua n x.cells:=by
 rw[lD.kP];exact⟨trivial,trivial,trivial,trivial⟩
def lD.of(H:List j6):List AV->Option lD
 |[c0,c1,c2]=>(dI .i64 c0).bind fun x0=>(dS c1).bind fun x1=>(dI .i64 c2).bind fun x2=>some (.mk x0 x1 x2)
 |_=>none
def lD.mZ{c0 c1 c2:AV}:lD.of H [c0,c1,c2]=(dI .i64 c0).bind fun x0=>(dS c1).bind fun x1=>(dI .i64 c2).bind fun x2=>some (.mk x0 x1 x2):=rfl
def lD.kR(H:List j6)(x:lD):lD.of H [.int .i64 x.kind,.str (sb x.text),.int .i64 x.at_]=some x:=by
 simp only[lD.mZ,wu,sM,Bh,nN,zC,beq_self_eq_true,fm,jF,dL]
 try (cases x;rfl)
theorem lD.l9(H:List j6)(x:lD):lD.of H x.cells=some x:=by rw[lD.jW];exact lD.kR H x
def lD.nL{x:lD}(h:lD.of H cs=some x):lQ H n cs x.cells:=by
 unfold lD.of at h;split at h
 ·simp only[fg,fi]at h;obtain⟨x0,h0,x1,h1,x2,h2,rfl⟩:=h;rw[lD.kP];exact(lQ.cons (uv h0) (lQ.cons (Rs h1) (lQ.cons (uv h2) lQ.nil)))
 ·cases h
def lD.kr:Ru lD:=⟨lD.cells,lD.of,fun _ _ _ _ h=>lD.nL h,lD.nb⟩
def lD.row:Row lD:=⟨lD.cells,lD.of [],3,fun _ _ h=>(lD.nL (n:=0) h).nI,lD.nb⟩
def lD.lZ(xs:List lD):qR (lD.of []) (mp lD.cells xs)=some xs:=yE (lD.l9 []) xs
def lD.sF:lD.row.enc=lD.cells/\lD.row.mK=lD.of []/\lD.row.sz=3/\lD.kr.enc=lD.cells/\lD.kr.mK=lD.of:=⟨rfl,rfl,rfl,rfl,rfl⟩
attribute [go_sem] lD.mZ lD.l9 lD.lZ lD.sF
def lD.Pt:(∀(y0:Int)(y1:kp)(y2:Int),(lD.mk y0 y1 y2).kind=y0)/\(∀(y0:Int)(y1:kp)(y2:Int),(lD.mk y0 y1 y2).text=y1)/\(∀(y0:Int)(y1:kp)(y2:Int),(lD.mk y0 y1 y2).at_=y2):=⟨fun _ _ _=>rfl,fun _ _ _=>rfl,fun _ _ _=>rfl⟩
attribute [go_sem] lD.Pt
def lD.nbs:(∀(n:Nat)(x:lD),Go.Abs.ua n x.cells=True)/\∀(n:Nat)(xs:List lD),Go.Abs.alP n (mp lD.cells xs)=True:=⟨fun n x=>eq_true (lD.nb n x),fun n xs=>eq_true (mz (lD.nb n) xs)⟩
def lD.vw(H:List j6)(x:lD):vwL H x.cells=some (x.cells,[]):=yF H _ (lD.nb 0 x)
attribute [go_sem] lD.vw
theorem lD.frz(low:Nat)(H:List j6)(x:lD):as8 low H x.cells=x.cells:=Lm low H _ (lD.nb 0 x)
def lD.reads:
 (∀x:lD,cellsOf (.agg x.cells)=some x.cells)/\
 (∀x:lD,kq true 3 x.cells=some (.agg x.cells))/\
 (∀x:lD,kq false 1 x.cells=some (.int .i64 x.kind))/\
 (∀x:lD,kq false 1 (x.cells.drop 1)=some (.str (sb x.text)))/\
 (∀x:lD,kq false 1 (x.cells.drop 2)=some (.int .i64 x.at_)):=
 ⟨fun x=>by simp only[cellsOf,lD.lI,jN],
  fun x=>p5 (lD.length x),
  fun x=>by rw[lD.jW];rfl,
  fun x=>by rw[lD.jW];rfl,
  fun x=>by rw[lD.jW];rfl⟩
attribute [go_sem] lD.nbs lD.frz lD.reads lD.length lD.lI
structure ko where
 Uj:List lD
 next:Int
 base:Int
def ko.cells(x:ko):List AV:=[.kJ false 3 (mp lD.cells x.Uj),.int .i64 x.next,.int .i64 x.base]
theorem ko.kP(x:ko):x.cells=[.kJ false 3 (mp lD.cells x.Uj),.int .i64 x.next,.int .i64 x.base]:=rfl
theorem ko.jW(x:ko):x.cells=[.kJ false 3 (mp lD.cells x.Uj),.int .i64 x.next,.int .i64 x.base]:=rfl
attribute [irreducible] ko.cells
theorem ko.length(x:ko):x.cells.length=3:=by rw[ko.jW];rfl
def ko.lI(x:ko):x.cells.all AV.lI=true:=by rw[ko.jW];rfl
theorem ko.nb(n:Nat)(x:ko):ua n x.cells:=by
 rw[ko.kP];exact⟨mz (lD.nb n) _,trivial,trivial,trivial⟩
def ko.of(H:List j6):List AV->Option ko
 |[c0,c1,c2]=>(dL lD.row H c0).bind fun x0=>(dI .i64 c1).bind fun x1=>(dI .i64 c2).bind fun x2=>some (.mk x0 x1 x2)
 |_=>none
def ko.mZ{c0 c1 c2:AV}:ko.of H [c0,c1,c2]=(dL lD.row H c0).bind fun x0=>(dI .i64 c1).bind fun x1=>(dI .i64 c2).bind fun x2=>some (.mk x0 x1 x2):=rfl
def ko.kR(H:List j6)(x:ko):ko.of H [.kJ false 3 (mp lD.cells x.Uj),.int .i64 x.next,.int .i64 x.base]=some x:=by
 simp only[ko.mZ,wu,sM,Bh,nN,zC,beq_self_eq_true,fm,jF,dL,lD.lZ,lD.row]
 try (cases x;rfl)
def ko.nL{x:ko}(h:ko.of H cs=some x):lQ H n cs x.cells:=by
 unfold ko.of at h;split at h
 ·simp only[fg,fi]at h;obtain⟨x0,h0,x1,h1,x2,h2,rfl⟩:=h;rw[ko.kP];exact(lQ.cons (ww h0) (lQ.cons (uv h1) (lQ.cons (uv h2) lQ.nil)))
 ·cases h
def ko.kr:Ru ko:=⟨ko.cells,ko.of,fun _ _ _ _ h=>ko.nL h,ko.nb⟩
def ko.row:Row ko:=⟨ko.cells,ko.of [],3,fun _ _ h=>(ko.nL (n:=0) h).nI,ko.nb⟩
def ko.sF:ko.row.enc=ko.cells/\ko.row.mK=ko.of []/\ko.row.sz=3/\ko.kr.enc=ko.cells/\ko.kr.mK=ko.of:=⟨rfl,rfl,rfl,rfl,rfl⟩
def ko.eta(x:ko):ko.mk x.Uj x.next x.base=x:=by cases x;rfl
attribute [go_sem] ko.mZ ko.sF ko.eta
def ko.Pt:(∀(y0:List lD)(y1:Int)(y2:Int),(ko.mk y0 y1 y2).Uj=y0)/\(∀(y0:List lD)(y1:Int)(y2:Int),(ko.mk y0 y1 y2).next=y1)/\(∀(y0:List lD)(y1:Int)(y2:Int),(ko.mk y0 y1 y2).base=y2):=⟨fun _ _ _=>rfl,fun _ _ _=>rfl,fun _ _ _=>rfl⟩
attribute [go_sem] ko.Pt
def ko.afa:(∀(Y:Nat->Nat)(x:ko),sO Y x.cells=x.cells)/\∀(Y:Nat->Nat)(xs:List ko),FX Y (mp ko.cells xs)=mp ko.cells xs:=⟨fun Y x=>qI Y _ (ko.nb 0 x),fun Y xs=>uE Y _ (mz (ko.nb 0) xs)⟩
def ko.reads:
 (∀x:ko,cellsOf (.agg x.cells)=some x.cells)/\
 (∀x:ko,kq true 3 x.cells=some (.agg x.cells))/\
 (∀x:ko,kq false 1 x.cells=some (.kJ false 3 (mp lD.cells x.Uj)))/\
 (∀x:ko,kq false 1 (x.cells.drop 1)=some (.int .i64 x.next))/\
 (∀x:ko,kq false 1 (x.cells.drop 2)=some (.int .i64 x.base)):=
 ⟨fun x=>by simp only[cellsOf,ko.lI,jN],
  fun x=>p5 (ko.length x),
  fun x=>by rw[ko.jW];rfl,
  fun x=>by rw[ko.jW];rfl,
  fun x=>by rw[ko.jW];rfl⟩
theorem ko.app(x:ko)(l:List AV):x.cells++l=(.kJ false 3 (mp lD.cells x.Uj):AV)::(.int .i64 x.next:AV)::(.int .i64 x.base:AV)::l:=by rw[ko.jW];rfl
attribute [go_sem] ko.app ko.afa ko.reads ko.length ko.lI
structure jQ where
 Hs:ko
 avQ:List jS
 afb:List kp
 depth:Int
def jQ.cells(x:jQ):List AV:=x.Hs.cells++[.kJ false 4 (mp jS.cells x.avQ),.kJ false 1 (mp kS x.afb),.int .i64 x.depth]
theorem jQ.kP(x:jQ):x.cells=x.Hs.cells++[.kJ false 4 (mp jS.cells x.avQ),.kJ false 1 (mp kS x.afb),.int .i64 x.depth]:=rfl
theorem jQ.jW(x:jQ):x.cells=[.kJ false 3 (mp lD.cells x.Hs.Uj),.int .i64 x.Hs.next,.int .i64 x.Hs.base,.kJ false 4 (mp jS.cells x.avQ),.kJ false 1 (mp kS x.afb),.int .i64 x.depth]:=by
 simp only[jQ.cells,ko.jW,fp,fq,fw]
attribute [irreducible] jQ.cells
theorem jQ.length(x:jQ):x.cells.length=6:=by rw[jQ.jW];rfl
def jQ.lI(x:jQ):x.cells.all AV.lI=true:=by rw[jQ.jW];rfl
theorem jQ.nb(n:Nat)(x:jQ):ua n x.cells:=by
 rw[jQ.kP];exact(pE (ko.nb n x.Hs) ⟨mz (jS.nb n) _,mz (wF n) _,trivial,trivial⟩)
def jQ.of(H:List j6):List AV->Option jQ
 |[c0,c1,c2,c3,c4,c5]=>(ko.of H [c0,c1,c2]).bind fun x0=>(dL jS.row H c3).bind fun x1=>(dL kW H c4).bind fun x2=>(dI .i64 c5).bind fun x3=>some (.mk x0 x1 x2 x3)
 |_=>none
def jQ.mZ{c0 c1 c2 c3 c4 c5:AV}:jQ.of H [c0,c1,c2,c3,c4,c5]=(ko.of H [c0,c1,c2]).bind fun x0=>(dL jS.row H c3).bind fun x1=>(dL kW H c4).bind fun x2=>(dI .i64 c5).bind fun x3=>some (.mk x0 x1 x2 x3):=rfl
def jQ.kR(H:List j6)(x:jQ):jQ.of H [.kJ false 3 (mp lD.cells x.Hs.Uj),.int .i64 x.Hs.next,.int .i64 x.Hs.base,.kJ false 4 (mp jS.cells x.avQ),.kJ false 1 (mp kS x.afb),.int .i64 x.depth]=some x:=by
 simp only[jQ.mZ,wu,sM,Bh,nN,zC,beq_self_eq_true,fm,jF,dL,jS.lZ,jS.row,xk,WK,ko.kR]
 try (cases x;rfl)
theorem jQ.l9(H:List j6)(x:jQ):jQ.of H x.cells=some x:=by rw[jQ.jW];exact jQ.kR H x
def jQ.nL{x:jQ}(h:jQ.of H cs=some x):lQ H n cs x.cells:=by
 unfold jQ.of at h;split at h
 ·simp only[fg,fi]at h;obtain⟨x0,h0,x1,h1,x2,h2,x3,h3,rfl⟩:=h;rw[jQ.kP];exact(lQ.append (ko.nL h0) (lQ.cons (ww h1) (lQ.cons (ww h2) (lQ.cons (uv h3) lQ.nil))))
 ·cases h
def jQ.kr:Ru jQ:=⟨jQ.cells,jQ.of,fun _ _ _ _ h=>jQ.nL h,jQ.nb⟩
def jQ.row:Row jQ:=⟨jQ.cells,jQ.of [],6,fun _ _ h=>(jQ.nL (n:=0) h).nI,jQ.nb⟩
def jQ.sF:jQ.row.enc=jQ.cells/\jQ.row.mK=jQ.of []/\jQ.row.sz=6/\jQ.kr.enc=jQ.cells/\jQ.kr.mK=jQ.of:=⟨rfl,rfl,rfl,rfl,rfl⟩
attribute [go_sem] jQ.mZ jQ.l9 jQ.sF
def jQ.Pt:(∀(y0:ko)(y1:List jS)(y2:List kp)(y3:Int),(jQ.mk y0 y1 y2 y3).Hs=y0)/\(∀(y0:ko)(y1:List jS)(y2:List kp)(y3:Int),(jQ.mk y0 y1 y2 y3).avQ=y1)/\(∀(y0:ko)(y1:List jS)(y2:List kp)(y3:Int),(jQ.mk y0 y1 y2 y3).afb=y2)/\(∀(y0:ko)(y1:List jS)(y2:List kp)(y3:Int),(jQ.mk y0 y1 y2 y3).depth=y3):=⟨fun _ _ _ _=>rfl,fun _ _ _ _=>rfl,fun _ _ _ _=>rfl,fun _ _ _ _=>rfl⟩
attribute [go_sem] jQ.Pt
def jQ.nbs:(∀(n:Nat)(x:jQ),Go.Abs.ua n x.cells=True)/\∀(n:Nat)(xs:List jQ),Go.Abs.alP n (mp jQ.cells xs)=True:=⟨fun n x=>eq_true (jQ.nb n x),fun n xs=>eq_true (mz (jQ.nb n) xs)⟩
def jQ.afa:(∀(Y:Nat->Nat)(x:jQ),sO Y x.cells=x.cells)/\∀(Y:Nat->Nat)(xs:List jQ),FX Y (mp jQ.cells xs)=mp jQ.cells xs:=⟨fun Y x=>qI Y _ (jQ.nb 0 x),fun Y xs=>uE Y _ (mz (jQ.nb 0) xs)⟩
def jQ.tk:(∀x:jQ,List.take 6 x.cells=x.cells)/\∀x:jQ,List.drop 6 x.cells=[]:=⟨fun x=>by rw[jQ.jW];rfl,fun x=>by rw[jQ.jW];rfl⟩
attribute [go_sem] jQ.tk
def jQ.reads:
 (∀x:jQ,cellsOf (.agg x.cells)=some x.cells)/\
 (∀x:jQ,kq true 6 x.cells=some (.agg x.cells))/\
 (∀x:jQ,kq false 1 x.cells=some (.kJ false 3 (mp lD.cells x.Hs.Uj)))/\
 (∀x:jQ,kq false 1 (x.cells.drop 1)=some (.int .i64 x.Hs.next))/\
 (∀x:jQ,kq false 1 (x.cells.drop 2)=some (.int .i64 x.Hs.base))/\
 (∀x:jQ,kq false 1 (x.cells.drop 3)=some (.kJ false 4 (mp jS.cells x.avQ)))/\
 (∀x:jQ,kq false 1 (x.cells.drop 4)=some (.kJ false 1 (mp kS x.afb)))/\
 (∀x:jQ,kq false 1 (x.cells.drop 5)=some (.int .i64 x.depth))/\
 (∀x:jQ,kq true 3 x.cells=some (.agg x.Hs.cells)):=
 ⟨fun x=>by simp only[cellsOf,jQ.lI,jN],
  fun x=>p5 (jQ.length x),
  fun x=>by rw[jQ.jW];rfl,
  fun x=>by rw[jQ.jW];rfl,
  fun x=>by rw[jQ.jW];rfl,
  fun x=>by rw[jQ.jW];rfl,
  fun x=>by rw[jQ.jW];rfl,
  fun x=>by rw[jQ.jW];rfl,
  fun x=>by rw[jQ.jW];simp only[ko.jW,fk,fo];rfl⟩
def jQ.avM(x:jQ)(o:Nat)(xs:List AV):vA x.cells o xs=vA [.kJ false 3 (mp lD.cells x.Hs.Uj),.int .i64 x.Hs.next,.int .i64 x.Hs.base,.kJ false 4 (mp jS.cells x.avQ),.kJ false 1 (mp kS x.afb),.int .i64 x.depth] o xs:=by rw[jQ.jW]
attribute [go_sem] jQ.nbs jQ.afa jQ.reads jQ.length jQ.lI
attribute [go_sem low] jQ.avM
structure ke where
 name:kp
 t:Syntax
def ke.cells(x:ke):List AV:=[.str (sb x.name)]++x.t.cells
theorem ke.kP(x:ke):x.cells=[.str (sb x.name)]++x.t.cells:=rfl
theorem ke.jW(x:ke):x.cells=[.str (sb x.name),.int .i64 x.t.kind,.str (sb x.t.text),.int .i64 x.t.num,.kJ false 1 (mp kS x.t.mF),.kJ false 2 (mp jZ.cells x.t.kC),.kJ false 8 (mp Syntax.cells x.t.lr),.int .i64 x.t.Pu,.int .i64 x.t.to]:=by
 simp only[ke.cells,Syntax.jW,fp,fq,fw]
attribute [irreducible] ke.cells
theorem ke.length(x:ke):x.cells.length=9:=by rw[ke.jW];rfl
def ke.lI(x:ke):x.cells.all AV.lI=true:=by rw[ke.jW];rfl
theorem ke.nb(n:Nat)(x:ke):ua n x.cells:=by
 rw[ke.kP];exact(pE ⟨trivial,trivial⟩ (Syntax.nb n x.t))
def ke.of(H:List j6):List AV->Option ke
 |[c0,c1,c2,c3,c4,c5,c6,c7,c8]=>(dS c0).bind fun x0=>(Syntax.of H [c1,c2,c3,c4,c5,c6,c7,c8]).bind fun x1=>some (.mk x0 x1)
 |_=>none
def ke.mZ {c0 c1 c2 c3 c4 c5 c6:AV}:ke.of H [c0,c1,c2,c3,c4,c5,c6,c7,c8]=(dS c0).bind fun x0=>(Syntax.of H [c1,c2,c3,c4,c5,c6,c7,c8]).bind fun x1=>some (.mk x0 x1):=rfl
def ke.kR(H:List j6)(x:ke):ke.of H [.str (sb x.name),.int .i64 x.t.kind,.str (sb x.t.text),.int .i64 x.t.num,.kJ false 1 (mp kS x.t.mF),.kJ false 2 (mp jZ.cells x.t.kC),.kJ false 8 (mp Syntax.cells x.t.lr),.int .i64 x.t.Pu,.int .i64 x.t.to]=some x:=by
 simp only[ke.mZ,wu,sM,Bh,nN,zC,beq_self_eq_true,fm,jF,dL,Syntax.kR]
 try (cases x;rfl)
theorem ke.l9(H:List j6)(x:ke):ke.of H x.cells=some x:=by rw[ke.jW];exact ke.kR H x
def ke.nL{x:ke}(h:ke.of H cs=some x):lQ H n cs x.cells:=by
 unfold ke.of at h;split at h
 ·simp only[fg,fi]at h;obtain⟨x0,h0,x1,h1,rfl⟩:=h;rw[ke.kP];exact(lQ.append (lQ.cons (Rs h0) lQ.nil) (Syntax.nL h1))
 ·cases h
def ke.kr:Ru ke:=⟨ke.cells,ke.of,fun _ _ _ _ h=>ke.nL h,ke.nb⟩
def ke.row:Row ke:=⟨ke.cells,ke.of [],9,fun _ _ h=>(ke.nL (n:=0) h).nI,ke.nb⟩
def ke.lZ(xs:List ke):qR (ke.of []) (mp ke.cells xs)=some xs:=yE (ke.l9 []) xs
def ke.sF:ke.row.enc=ke.cells/\ke.row.mK=ke.of []/\ke.row.sz=9/\ke.kr.enc=ke.cells/\ke.kr.mK=ke.of:=⟨rfl,rfl,rfl,rfl,rfl⟩
attribute [go_sem] ke.mZ ke.l9 ke.lZ ke.sF
def ke.Pt:(∀(y0:kp)(y1:Syntax),(ke.mk y0 y1).name=y0)/\(∀(y0:kp)(y1:Syntax),(ke.mk y0 y1).t=y1):=⟨fun _ _=>rfl,fun _ _=>rfl⟩
attribute [go_sem] ke.Pt
def ke.nbs:(∀(n:Nat)(x:ke),Go.Abs.ua n x.cells=True)/\∀(n:Nat)(xs:List ke),Go.Abs.alP n (mp ke.cells xs)=True:=⟨fun n x=>eq_true (ke.nb n x),fun n xs=>eq_true (mz (ke.nb n) xs)⟩
def ke.afa:(∀(Y:Nat->Nat)(x:ke),sO Y x.cells=x.cells)/\∀(Y:Nat->Nat)(xs:List ke),FX Y (mp ke.cells xs)=mp ke.cells xs:=⟨fun Y x=>qI Y _ (ke.nb 0 x),fun Y xs=>uE Y _ (mz (ke.nb 0) xs)⟩
def ke.reads:
 (∀x:ke,cellsOf (.agg x.cells)=some x.cells)/\
 (∀x:ke,kq true 9 x.cells=some (.agg x.cells))/\
 (∀x:ke,kq false 1 x.cells=some (.str (sb x.name)))/\
 (∀x:ke,kq false 1 (x.cells.drop 1)=some (.int .i64 x.t.kind))/\
 (∀x:ke,kq false 1 (x.cells.drop 2)=some (.str (sb x.t.text)))/\
 (∀x:ke,kq false 1 (x.cells.drop 3)=some (.int .i64 x.t.num))/\
 (∀x:ke,kq false 1 (x.cells.drop 4)=some (.kJ false 1 (mp kS x.t.mF)))/\
 (∀x:ke,kq false 1 (x.cells.drop 5)=some (.kJ false 2 (mp jZ.cells x.t.kC)))/\
 (∀x:ke,kq false 1 (x.cells.drop 6)=some (.kJ false 8 (mp Syntax.cells x.t.lr)))/\
 (∀x:ke,kq false 1 (x.cells.drop 7)=some (.int .i64 x.t.Pu))/\
 (∀x:ke,kq false 1 (x.cells.drop 8)=some (.int .i64 x.t.to))/\
 (∀x:ke,kq true 8 (x.cells.drop 1)=some (.agg x.t.cells)):=
 ⟨fun x=>by simp only[cellsOf,ke.lI,jN],
  fun x=>p5 (ke.length x),
  fun x=>by rw[ke.jW];rfl,
  fun x=>by rw[ke.jW];rfl,
  fun x=>by rw[ke.jW];rfl,
  fun x=>by rw[ke.jW];rfl,
  fun x=>by rw[ke.jW];rfl,
  fun x=>by rw[ke.jW];rfl,
  fun x=>by rw[ke.jW];rfl,
  fun x=>by rw[ke.jW];rfl,
  fun x=>by rw[ke.jW];rfl,
  fun x=>by rw[ke.jW];simp only[Syntax.jW,fk,fo];rfl⟩
attribute [go_sem] ke.nbs ke.afa ke.reads ke.length ke.lI
structure kn where
 index:Bool
 name:Bool
 kC:Int
 lr:Int
 below:Int
def kn.cells(x:kn):List AV:=[.bool x.index,.bool x.name,.int .i64 x.kC,.int .i64 x.lr,.int .i64 x.below]
theorem kn.kP(x:kn):x.cells=[.bool x.index,.bool x.name,.int .i64 x.kC,.int .i64 x.lr,.int .i64 x.below]:=rfl
theorem kn.jW(x:kn):x.cells=[.bool x.index,.bool x.name,.int .i64 x.kC,.int .i64 x.lr,.int .i64 x.below]:=rfl
attribute [irreducible] kn.cells
theorem kn.length(x:kn):x.cells.length=5:=by rw[kn.jW];rfl
def kn.lI(x:kn):x.cells.all AV.lI=true:=by rw[kn.jW];rfl
theorem kn.nb(n:Nat)(x:kn):ua n x.cells:=by
 rw[kn.kP];exact⟨trivial,trivial,trivial,trivial,trivial,trivial⟩
def kn.of(H:List j6):List AV->Option kn
 |[c0,c1,c2,c3,c4]=>(dB c0).bind fun x0=>(dB c1).bind fun x1=>(dI .i64 c2).bind fun x2=>(dI .i64 c3).bind fun x3=>(dI .i64 c4).bind fun x4=>some (.mk x0 x1 x2 x3 x4)
 |_=>none
def kn.mZ{c0 c1 c2 c3 c4:AV}:kn.of H [c0,c1,c2,c3,c4]=(dB c0).bind fun x0=>(dB c1).bind fun x1=>(dI .i64 c2).bind fun x2=>(dI .i64 c3).bind fun x3=>(dI .i64 c4).bind fun x4=>some (.mk x0 x1 x2 x3 x4):=rfl
def kn.kR(H:List j6)(x:kn):kn.of H [.bool x.index,.bool x.name,.int .i64 x.kC,.int .i64 x.lr,.int .i64 x.below]=some x:=by
 simp only[kn.mZ,wu,sM,Bh,nN,zC,beq_self_eq_true,fm,jF,dL]
 try (cases x;rfl)
theorem kn.l9(H:List j6)(x:kn):kn.of H x.cells=some x:=by rw[kn.jW];exact kn.kR H x
def kn.nL{x:kn}(h:kn.of H cs=some x):lQ H n cs x.cells:=by
 unfold kn.of at h;split at h
 ·simp only[fg,fi]at h;obtain⟨x0,h0,x1,h1,x2,h2,x3,h3,x4,h4,rfl⟩:=h;rw[kn.kP];exact(lQ.cons (asy h0) (lQ.cons (asy h1) (lQ.cons (uv h2) (lQ.cons (uv h3) (lQ.cons (uv h4) lQ.nil)))))
 ·cases h
def kn.kr:Ru kn:=⟨kn.cells,kn.of,fun _ _ _ _ h=>kn.nL h,kn.nb⟩
def kn.row:Row kn:=⟨kn.cells,kn.of [],5,fun _ _ h=>(kn.nL (n:=0) h).nI,kn.nb⟩
def kn.sF:kn.row.enc=kn.cells/\kn.row.mK=kn.of []/\kn.row.sz=5/\kn.kr.enc=kn.cells/\kn.kr.mK=kn.of:=⟨rfl,rfl,rfl,rfl,rfl⟩
attribute [go_sem] kn.mZ kn.l9 kn.sF
def kn.Pt:(∀(y0:Bool)(y1:Bool)(y2:Int)(y3:Int)(y4:Int),(kn.mk y0 y1 y2 y3 y4).index=y0)/\(∀(y0:Bool)(y1:Bool)(y2:Int)(y3:Int)(y4:Int),(kn.mk y0 y1 y2 y3 y4).name=y1)/\(∀(y0:Bool)(y1:Bool)(y2:Int)(y3:Int)(y4:Int),(kn.mk y0 y1 y2 y3 y4).kC=y2)/\(∀(y0:Bool)(y1:Bool)(y2:Int)(y3:Int)(y4:Int),(kn.mk y0 y1 y2 y3 y4).lr=y3)/\(∀(y0:Bool)(y1:Bool)(y2:Int)(y3:Int)(y4:Int),(kn.mk y0 y1 y2 y3 y4).below=y4):=⟨fun _ _ _ _ _=>rfl,fun _ _ _ _ _=>rfl,fun _ _ _ _ _=>rfl,fun _ _ _ _ _=>rfl,fun _ _ _ _ _=>rfl⟩
attribute [go_sem] kn.Pt
def kn.arr:(∀(m i:Nat)(v:yH kn m),WB 5 i (sY kn.cells m v)=((Es m v)[i]?).bind fun y=>some (kn.cells y))/\(∀(H:List j6)(m:Nat)(v:yH kn m),aaH (kn.of H) 5 m (sY kn.cells m v)=some v)/\(∀(m:Nat)(v:yH kn m),(sY kn.cells m v).length=m*5)/\(∀(Y:Nat->Nat)(m:Nat)(v:yH kn m),sO Y (sY kn.cells m v)=sY kn.cells m v)/\(∀(N m:Nat)(v:yH kn m),ua N (sY kn.cells m v)=True)/\(∀(l:Nat)(cs:List AV)(m:Nat)(v:yH kn m),(sY kn.cells m v).map (rp1 l cs)=sY kn.cells m v)/\(∀(l:Nat)(cs:List AV)(m:Nat)(v:yH kn m),(sY kn.cells m v).map (rpV l cs)=sY kn.cells m v)/\(∀(m:Nat)(v:yH kn m),cellsOf (.agg (sY kn.cells m v))=some (sY kn.cells m v)):=⟨fun m i v=>(anY kn.length (by decide) m i v).trans (by cases (Es m v)[i]? <;>rfl),fun H m v=>avD kn.length (kn.l9 H) m v,fun m v=>avC kn.length m v,fun Y m v=>qI Y _ (ay0 kn.nb 0 m v),fun N m v=>eq_true (ay0 kn.nb N m v),fun l cs m v=>ae3 _ (ay0 kn.nb 0 m v),fun l cs m v=>WN _ (ay0 kn.nb 0 m v),fun m v=>aKf kn.lI m v⟩
attribute [go_sem high] kn.arr
def kn.reads:
 (∀x:kn,cellsOf (.agg x.cells)=some x.cells)/\
 (∀x:kn,kq true 5 x.cells=some (.agg x.cells))/\
 (∀x:kn,kq false 1 x.cells=some (.bool x.index))/\
 (∀x:kn,kq false 1 (x.cells.drop 1)=some (.bool x.name))/\
 (∀x:kn,kq false 1 (x.cells.drop 2)=some (.int .i64 x.kC))/\
 (∀x:kn,kq false 1 (x.cells.drop 3)=some (.int .i64 x.lr))/\
 (∀x:kn,kq false 1 (x.cells.drop 4)=some (.int .i64 x.below)):=
 ⟨fun x=>by simp only[cellsOf,kn.lI,jN],
  fun x=>p5 (kn.length x),
  fun x=>by rw[kn.jW];rfl,
  fun x=>by rw[kn.jW];rfl,
  fun x=>by rw[kn.jW];rfl,
  fun x=>by rw[kn.jW];rfl,
  fun x=>by rw[kn.jW];rfl⟩
attribute [go_sem] kn.reads kn.length kn.lI
structure j7 where
 env:List ky
 own:List kp
 d:ky
def j7.cells(x:j7):List AV:=[.kJ false 23 (mp ky.cells x.env),.kJ false 1 (mp kS x.own)]++x.d.cells
theorem j7.kP(x:j7):x.cells=[.kJ false 23 (mp ky.cells x.env),.kJ false 1 (mp kS x.own)]++x.d.cells:=rfl
theorem j7.jW(x:j7):x.cells=[.kJ false 23 (mp ky.cells x.env),.kJ false 1 (mp kS x.own),.int .i64 x.d.kind,.str (sb x.d.name),.int .i64 x.d.params,.int .i64 x.d.type.kind,.int .i64 x.d.type.index,.str (sb x.d.type.name),.kJ false 2 (mp kE.cells x.d.type.kC),.kJ false 5 (mp jX.cells x.d.type.lr),.int .i64 x.d.value.kind,.int .i64 x.d.value.index,.str (sb x.d.value.name),.kJ false 2 (mp kE.cells x.d.value.kC),.kJ false 5 (mp jX.cells x.d.value.lr),.int .i64 x.d.Hr,.kJ false 6 (mp mL.cells x.d.qZ),.int .i64 x.d.pd.params,.int .i64 x.d.pd.type.kind,.int .i64 x.d.pd.type.index,.str (sb x.d.pd.type.name),.kJ false 2 (mp kE.cells x.d.pd.type.kC),.kJ false 5 (mp jX.cells x.d.pd.type.lr),.kJ false 5 (mp jX.cells x.d.pd.yG),.kJ false 15 (mp qH.cells x.d.Al)]:=by
 simp only[j7.cells,ky.jW,fp,fq,fw]
attribute [irreducible] j7.cells
theorem j7.length(x:j7):x.cells.length=25:=by rw[j7.jW];rfl
def j7.lI(x:j7):x.cells.all AV.lI=true:=by rw[j7.jW];rfl
theorem j7.nb(n:Nat)(x:j7):ua n x.cells:=by
 rw[j7.kP];exact(pE ⟨mz (ky.nb n) _,mz (wF n) _,trivial⟩ (ky.nb n x.d))
def j7.of(H:List j6):List AV->Option j7
 |[c0,c1,c2,c3,c4,c5,c6,c7,c8,c9,c10,c11,c12,c13,c14,c15,c16,c17,c18,c19,c20,c21,c22,c23,c24]=>(dL ky.row H c0).bind fun x0=>(dL kW H c1).bind fun x1=>(ky.of H [c2,c3,c4,c5,c6,c7,c8,c9,c10,c11,c12,c13,c14,c15,c16,c17,c18,c19,c20,c21,c22,c23,c24]).bind fun x2=>some (.mk x0 x1 x2)
 |_=>none
def j7.mZ {c0 c1 c2 c3 c4 c5 c6 c14 c15 c16 c17 c18 c19 c20 c21 c22 c23 c24:AV}:j7.of H [c0,c1,c2,c3,c4,c5,c6,c7,c8,c9,c10,c11,c12,c13,c14,c15,c16,c17,c18,c19,c20,c21,c22,c23,c24]=(dL ky.row H c0).bind fun x0=>(dL kW H c1).bind fun x1=>(ky.of H [c2,c3,c4,c5,c6,c7,c8,c9,c10,c11,c12,c13,c14,c15,c16,c17,c18,c19,c20,c21,c22,c23,c24]).bind fun x2=>some (.mk x0 x1 x2):=rfl
def j7.kR(H:List j6)(x:j7):j7.of H [.kJ false 23 (mp ky.cells x.env),.kJ false 1 (mp kS x.own),.int .i64 x.d.kind,.str (sb x.d.name),.int .i64 x.d.params,.int .i64 x.d.type.kind,.int .i64 x.d.type.index,.str (sb x.d.type.name),.kJ false 2 (mp kE.cells x.d.type.kC),.kJ false 5 (mp jX.cells x.d.type.lr),.int .i64 x.d.value.kind,.int .i64 x.d.value.index,.str (sb x.d.value.name),.kJ false 2 (mp kE.cells x.d.value.kC),.kJ false 5 (mp jX.cells x.d.value.lr),.int .i64 x.d.Hr,.kJ false 6 (mp mL.cells x.d.qZ),.int .i64 x.d.pd.params,.int .i64 x.d.pd.type.kind,.int .i64 x.d.pd.type.index,.str (sb x.d.pd.type.name),.kJ false 2 (mp kE.cells x.d.pd.type.kC),.kJ false 5 (mp jX.cells x.d.pd.type.lr),.kJ false 5 (mp jX.cells x.d.pd.yG),.kJ false 15 (mp qH.cells x.d.Al)]=some x:=by
 simp only[j7.mZ,wu,sM,Bh,nN,zC,beq_self_eq_true,fm,jF,dL,ky.lZ,ky.row,xk,WK,ky.kR]
 try (cases x;rfl)
theorem j7.l9(H:List j6)(x:j7):j7.of H x.cells=some x:=by rw[j7.jW];exact j7.kR H x
def j7.nL{x:j7}(h:j7.of H cs=some x):lQ H n cs x.cells:=by
 unfold j7.of at h;split at h
 ·simp only[fg,fi]at h;obtain⟨x0,h0,x1,h1,x2,h2,rfl⟩:=h;rw[j7.kP];exact(lQ.append (lQ.cons (ww h0) (lQ.cons (ww h1) lQ.nil)) (ky.nL h2))
 ·cases h
def j7.kr:Ru j7:=⟨j7.cells,j7.of,fun _ _ _ _ h=>j7.nL h,j7.nb⟩
def j7.row:Row j7:=⟨j7.cells,j7.of [],25,fun _ _ h=>(j7.nL (n:=0) h).nI,j7.nb⟩
def j7.sF:j7.row.enc=j7.cells/\j7.row.mK=j7.of []/\j7.row.sz=25/\j7.kr.enc=j7.cells/\j7.kr.mK=j7.of:=⟨rfl,rfl,rfl,rfl,rfl⟩
attribute [go_sem] j7.mZ j7.l9 j7.sF
def j7.Pt:(∀(y0:List ky)(y1:List kp)(y2:ky),(j7.mk y0 y1 y2).env=y0)/\(∀(y0:List ky)(y1:List kp)(y2:ky),(j7.mk y0 y1 y2).own=y1)/\(∀(y0:List ky)(y1:List kp)(y2:ky),(j7.mk y0 y1 y2).d=y2):=⟨fun _ _ _=>rfl,fun _ _ _=>rfl,fun _ _ _=>rfl⟩
attribute [go_sem] j7.Pt
def j7.nbs:(∀(n:Nat)(x:j7),Go.Abs.ua n x.cells=True)/\∀(n:Nat)(xs:List j7),Go.Abs.alP n (mp j7.cells xs)=True:=⟨fun n x=>eq_true (j7.nb n x),fun n xs=>eq_true (mz (j7.nb n) xs)⟩
def j7.vw(H:List j6)(x:j7):vwL H x.cells=some (x.cells,[]):=yF H _ (j7.nb 0 x)
attribute [go_sem] j7.vw
def j7.reads:
 (∀x:j7,cellsOf (.agg x.cells)=some x.cells)/\
 (∀x:j7,kq true 25 x.cells=some (.agg x.cells))/\
 (∀x:j7,kq false 1 x.cells=some (.kJ false 23 (mp ky.cells x.env)))/\
 (∀x:j7,kq false 1 (x.cells.drop 1)=some (.kJ false 1 (mp kS x.own)))/\
 (∀x:j7,kq false 1 (x.cells.drop 2)=some (.int .i64 x.d.kind))/\
 (∀x:j7,kq false 1 (x.cells.drop 3)=some (.str (sb x.d.name)))/\
 (∀x:j7,kq false 1 (x.cells.drop 4)=some (.int .i64 x.d.params))/\
 (∀x:j7,kq false 1 (x.cells.drop 5)=some (.int .i64 x.d.type.kind))/\
 (∀x:j7,kq false 1 (x.cells.drop 6)=some (.int .i64 x.d.type.index))/\
 (∀x:j7,kq false 1 (x.cells.drop 7)=some (.str (sb x.d.type.name)))/\
 (∀x:j7,kq false 1 (x.cells.drop 8)=some (.kJ false 2 (mp kE.cells x.d.type.kC)))/\
 (∀x:j7,kq false 1 (x.cells.drop 9)=some (.kJ false 5 (mp jX.cells x.d.type.lr)))/\
 (∀x:j7,kq false 1 (x.cells.drop 10)=some (.int .i64 x.d.value.kind))/\
 (∀x:j7,kq false 1 (x.cells.drop 11)=some (.int .i64 x.d.value.index))/\
 (∀x:j7,kq false 1 (x.cells.drop 12)=some (.str (sb x.d.value.name)))/\
 (∀x:j7,kq false 1 (x.cells.drop 13)=some (.kJ false 2 (mp kE.cells x.d.value.kC)))/\
 (∀x:j7,kq false 1 (x.cells.drop 14)=some (.kJ false 5 (mp jX.cells x.d.value.lr)))/\
 (∀x:j7,kq false 1 (x.cells.drop 15)=some (.int .i64 x.d.Hr))/\
 (∀x:j7,kq false 1 (x.cells.drop 16)=some (.kJ false 6 (mp mL.cells x.d.qZ)))/\
 (∀x:j7,kq false 1 (x.cells.drop 17)=some (.int .i64 x.d.pd.params))/\
 (∀x:j7,kq false 1 (x.cells.drop 18)=some (.int .i64 x.d.pd.type.kind))/\
 (∀x:j7,kq false 1 (x.cells.drop 19)=some (.int .i64 x.d.pd.type.index))/\
 (∀x:j7,kq false 1 (x.cells.drop 20)=some (.str (sb x.d.pd.type.name)))/\
 (∀x:j7,kq false 1 (x.cells.drop 21)=some (.kJ false 2 (mp kE.cells x.d.pd.type.kC)))/\
 (∀x:j7,kq false 1 (x.cells.drop 22)=some (.kJ false 5 (mp jX.cells x.d.pd.type.lr)))/\
 (∀x:j7,kq false 1 (x.cells.drop 23)=some (.kJ false 5 (mp jX.cells x.d.pd.yG)))/\
 (∀x:j7,kq false 1 (x.cells.drop 24)=some (.kJ false 15 (mp qH.cells x.d.Al)))/\
 (∀x:j7,kq true 23 (x.cells.drop 2)=some (.agg x.d.cells))/\
 (∀x:j7,kq true 5 (x.cells.drop 5)=some (.agg x.d.type.cells))/\
 (∀x:j7,kq true 5 (x.cells.drop 10)=some (.agg x.d.value.cells))/\
 (∀x:j7,kq true 7 (x.cells.drop 17)=some (.agg x.d.pd.cells))/\
 (∀x:j7,kq true 5 (x.cells.drop 18)=some (.agg x.d.pd.type.cells)):=
 ⟨fun x=>by simp only[cellsOf,j7.lI,jN],
  fun x=>p5 (j7.length x),
  fun x=>by rw[j7.jW];rfl,
  fun x=>by rw[j7.jW];rfl,
  fun x=>by rw[j7.jW];rfl,
  fun x=>by rw[j7.jW];rfl,
  fun x=>by rw[j7.jW];rfl,
  fun x=>by rw[j7.jW];rfl,
  fun x=>by rw[j7.jW];rfl,
  fun x=>by rw[j7.jW];rfl,
  fun x=>by rw[j7.jW];rfl,
  fun x=>by rw[j7.jW];rfl,
  fun x=>by rw[j7.jW];rfl,
  fun x=>by rw[j7.jW];rfl,
  fun x=>by rw[j7.jW];rfl,
  fun x=>by rw[j7.jW];rfl,
  fun x=>by rw[j7.jW];rfl,
  fun x=>by rw[j7.jW];rfl,
  fun x=>by rw[j7.jW];rfl,
  fun x=>by rw[j7.jW];rfl,
  fun x=>by rw[j7.jW];rfl,
  fun x=>by rw[j7.jW];rfl,
  fun x=>by rw[j7.jW];rfl,
  fun x=>by rw[j7.jW];rfl,
  fun x=>by rw[j7.jW];rfl,
  fun x=>by rw[j7.jW];rfl,
  fun x=>by rw[j7.jW];rfl,
  fun x=>by rw[j7.jW];simp only[ky.jW,kZ.jW,jX.jW,fk,fo];rfl,
  fun x=>by rw[j7.jW];simp only[ky.jW,kZ.jW,jX.jW,fk,fo];rfl,
  fun x=>by rw[j7.jW];simp only[ky.jW,kZ.jW,jX.jW,fk,fo];rfl,
  fun x=>by rw[j7.jW];simp only[ky.jW,kZ.jW,jX.jW,fk,fo];rfl,
  fun x=>by rw[j7.jW];simp only[ky.jW,kZ.jW,jX.jW,fk,fo];rfl⟩
def j7.avM(x:j7)(o:Nat)(xs:List AV):vA x.cells o xs=vA [.kJ false 23 (mp ky.cells x.env),.kJ false 1 (mp kS x.own),.int .i64 x.d.kind,.str (sb x.d.name),.int .i64 x.d.params,.int .i64 x.d.type.kind,.int .i64 x.d.type.index,.str (sb x.d.type.name),.kJ false 2 (mp kE.cells x.d.type.kC),.kJ false 5 (mp jX.cells x.d.type.lr),.int .i64 x.d.value.kind,.int .i64 x.d.value.index,.str (sb x.d.value.name),.kJ false 2 (mp kE.cells x.d.value.kC),.kJ false 5 (mp jX.cells x.d.value.lr),.int .i64 x.d.Hr,.kJ false 6 (mp mL.cells x.d.qZ),.int .i64 x.d.pd.params,.int .i64 x.d.pd.type.kind,.int .i64 x.d.pd.type.index,.str (sb x.d.pd.type.name),.kJ false 2 (mp kE.cells x.d.pd.type.kC),.kJ false 5 (mp jX.cells x.d.pd.type.lr),.kJ false 5 (mp jX.cells x.d.pd.yG),.kJ false 15 (mp qH.cells x.d.Al)] o xs:=by rw[j7.jW]
attribute [go_sem] j7.nbs j7.reads j7.length j7.lI
attribute [go_sem low] j7.avM
open Go.Proofs
def tf0:
 mS ff 1=some (false,1)/\
 mq ff 1=none/\
 mI ff 1=some [.sX .nilFunc]/\
 pq ff 1=false/\
 l4 ff 1=true/\
 nA ff 1=true/\
 mS ff 3=some (false,1)/\
 mq ff 3=none/\
 mI ff 3=some [.int .i64 0]/\
 pq ff 3=false/\
 auH ff 3=some .i64/\
 l4 ff 3=false/\
 nA ff 3=true/\
 mS ff 4=some (false,1)/\
 mq ff 4=none/\
 mI ff 4=some [.bool false]/\
 pq ff 4=false/\
 l4 ff 4=true/\
 nA ff 4=true/\
 mS ff 5=some (false,1)/\
 mq ff 5=none/\
 mI ff 5=some [.int .u8 0]/\
 pq ff 5=false/\
 auH ff 5=some .u8/\
 l4 ff 5=false/\
 nA ff 5=true/\
 mS ff 9=some (false,1)/\
 mq ff 9=none/\
 mI ff 9=some [.str fj]/\
 pq ff 9=true/\
 auH ff 9=none/\
 l4 ff 9=true/\
 nA ff 9=true/\
 mS ff 20=some (false,1)/\
 mq ff 20=none/\
 mI ff 20=some [.sX .nilIface]/\
 pq ff 20=false/\
 l4 ff 20=true/\
 nA ff 20=false/\
 mS ff 21=some (false,1)/\
 mq ff 21=none/\
 mI ff 21=some [.int .i32 0]/\
 pq ff 21=false/\
 auH ff 21=some .i32/\
 l4 ff 21=false/\
 nA ff 21=true/\
 mS ff 22=some (false,1)/\
 mq ff 22=some (25,4,56)/\
 mI ff 22=some [.kJ true 0 []]/\
 pq ff 22=false/\
 l4 ff 22=true/\
 nA ff 22=true/\
 mS ff 23=some (false,1)/\
 mq ff 23=some (9,1,16)/\
 mI ff 23=some [.kJ true 0 []]/\
 pq ff 23=false/\
 l4 ff 23=true/\
 nA ff 23=true/\
 mS ff 25=some (true,4)/\
 rG ff 25=true/\
 oh ff 25 0=some (0,23)/\
 kV ff 25 0=some (0,1)/\
 oh ff 25 1=some (1,3)/\
 kV ff 25 1=some (1,1)/\
 oh ff 25 2=some (2,3)/\
 kV ff 25 2=some (2,1)/\
 oh ff 25 3=some (3,9)/\
 kV ff 25 3=some (3,1)/\
 mq ff 25=none/\
 mI ff 25=some [.kJ true 0 [],.int .i64 0,.int .i64 0,.str fj]/\
 pq ff 25=false/\
 l4 ff 25=true/\
 nA ff 25=true/\
 mS ff 28=some (false,1)/\
 mq ff 28=none/\
 mI ff 28=some [.int .i64 0]/\
 pq ff 28=false/\
 auH ff 28=some .i64/\
 l4 ff 28=false/\
 nA ff 28=true/\
 mS ff 33=some (false,1)/\
 mq ff 33=none/\
 mI ff 33=some [.sX .nilFunc]/\
 pq ff 33=false/\
 l4 ff 33=true/\
 nA ff 33=true/\
 mS ff 34=some (false,1)/\
 mq ff 34=some (112,2,32)/\
 mI ff 34=some [.kJ true 0 []]/\
 pq ff 34=false/\
 l4 ff 34=true/\
 nA ff 34=true/\
 mS ff 35=some (false,1)/\
 mq ff 35=some (37,8,120)/\
 mI ff 35=some [.kJ true 0 []]/\
 pq ff 35=false/\
 l4 ff 35=true/\
 nA ff 35=true/\
 mS ff 37=some (true,8)/\
 rG ff 37=true/\
 oh ff 37 0=some (0,3)/\
 kV ff 37 0=some (0,1)/\
 oh ff 37 1=some (1,9)/\
 kV ff 37 1=some (1,1)/\
 oh ff 37 2=some (2,3)/\
 kV ff 37 2=some (2,1)/\
 oh ff 37 3=some (3,23)/\
 kV ff 37 3=some (3,1)/\
 oh ff 37 4=some (4,34)/\
 kV ff 37 4=some (4,1)/\
 oh ff 37 5=some (5,35)/\
 kV ff 37 5=some (5,1)/\
 oh ff 37 6=some (6,3)/\
 kV ff 37 6=some (6,1)/\
 oh ff 37 7=some (7,3)/\
 kV ff 37 7=some (7,1)/\
 mq ff 37=none/\
 mI ff 37=some [.int .i64 0,.str fj,.int .i64 0,.kJ true 0 [],.kJ true 0 [],.kJ true 0 [],.int .i64 0,.int .i64 0]/\
 pq ff 37=false/\
 l4 ff 37=true:=
 ⟨jO,jO,jO,jO,jO,jO,jO,jO,jO,jO,jO,jO,jO,jO,jO,jO,jO,jO,jO,jO,jO,jO,jO,jO,jO,jO,jO,jO,jO,jO,jO,jO,jO,jO,jO,jO,jO,jO,jO,jO,jO,jO,jO,jO,jO,jO,jO,jO,jO,jO,jO,jO,jO,jO,jO,jO,jO,jO,jO,jO,jO,jO,jO,jO,jO,jO,jO,jO,jO,jO,jO,jO,jO,jO,jO,jO,jO,jO,jO,jO,jO,jO,jO,jO,jO,jO,jO,jO,jO,jO,jO,jO,jO,jO,jO,jO,jO,jO,jO,jO,jO,jO,jO,jO,jO,jO,jO,jO,jO,jO,jO,jO,jO,jO,jO,jO,jO,jO,jO,jO⟩
def tf1:
 nA ff 37=true/\
 mS ff 42=some (false,1)/\
 mq ff 42=some (131,23,360)/\
 mI ff 42=some [.kJ true 0 []]/\
 pq ff 42=false/\
 l4 ff 42=true/\
 nA ff 42=true/\
 mS ff 43=some (false,1)/\
 mq ff 43=some (432,2,40)/\
 mI ff 43=some [.kJ true 0 []]/\
 pq ff 43=false/\
 l4 ff 43=true/\
 nA ff 43=true/\
 mS ff 45=some (true,7)/\
 rG ff 45=true/\
 oh ff 45 0=some (0,42)/\
 kV ff 45 0=some (0,1)/\
 oh ff 45 1=some (1,43)/\
 kV ff 45 1=some (1,1)/\
 oh ff 45 2=some (2,23)/\
 kV ff 45 2=some (2,1)/\
 oh ff 45 3=some (3,23)/\
 kV ff 45 3=some (3,1)/\
 oh ff 45 4=some (4,22)/\
 kV ff 45 4=some (4,1)/\
 oh ff 45 5=some (5,23)/\
 kV ff 45 5=some (5,1)/\
 oh ff 45 6=some (6,23)/\
 kV ff 45 6=some (6,1)/\
 mq ff 45=none/\
 mI ff 45=some [.kJ true 0 [],.kJ true 0 [],.kJ true 0 [],.kJ true 0 [],.kJ true 0 [],.kJ true 0 [],.kJ true 0 []]/\
 pq ff 45=false/\
 l4 ff 45=true/\
 nA ff 45=true/\
 mS ff 46=some (false,1)/\
 mq ff 46=some (98,2,32)/\
 mI ff 46=some [.kJ true 0 []]/\
 pq ff 46=false/\
 l4 ff 46=true/\
 nA ff 46=true/\
 mS ff 47=some (false,1)/\
 mq ff 47=some (49,5,80)/\
 mI ff 47=some [.kJ true 0 []]/\
 pq ff 47=false/\
 l4 ff 47=true/\
 nA ff 47=true/\
 mS ff 49=some (true,5)/\
 rG ff 49=true/\
 oh ff 49 0=some (0,3)/\
 kV ff 49 0=some (0,1)/\
 oh ff 49 1=some (1,3)/\
 kV ff 49 1=some (1,1)/\
 oh ff 49 2=some (2,9)/\
 kV ff 49 2=some (2,1)/\
 oh ff 49 3=some (3,46)/\
 kV ff 49 3=some (3,1)/\
 oh ff 49 4=some (4,47)/\
 kV ff 49 4=some (4,1)/\
 mq ff 49=none/\
 mI ff 49=some [.int .i64 0,.int .i64 0,.str fj,.kJ true 0 [],.kJ true 0 []]/\
 pq ff 49=false/\
 l4 ff 49=true/\
 nA ff 49=true/\
 mS ff 51=some (true,14)/\
 rG ff 51=true/\
 oh ff 51 0=some (0,45)/\
 kV ff 51 0=some (0,7)/\
 oh ff 51 1=some (7,23)/\
 kV ff 51 1=some (7,1)/\
 oh ff 51 2=some (8,23)/\
 kV ff 51 2=some (8,1)/\
 oh ff 51 3=some (9,49)/\
 kV ff 51 3=some (9,5)/\
 mq ff 51=none/\
 mI ff 51=some [.kJ true 0 [],.kJ true 0 [],.kJ true 0 [],.kJ true 0 [],.kJ true 0 [],.kJ true 0 [],.kJ true 0 [],.kJ true 0 [],.kJ true 0 [],.int .i64 0,.int .i64 0,.str fj,.kJ true 0 [],.kJ true 0 []]/\
 pq ff 51=false/\
 l4 ff 51=true/\
 nA ff 51=true/\
 mS ff 63=some (true,9)/\
 rG ff 63=true/\
 oh ff 63 0=some (0,3)/\
 kV ff 63 0=some (0,1)/\
 oh ff 63 1=some (1,3)/\
 kV ff 63 1=some (1,1)/\
 oh ff 63 2=some (2,3)/\
 kV ff 63 2=some (2,1)/\
 oh ff 63 3=some (3,3)/\
 kV ff 63 3=some (3,1)/\
 oh ff 63 4=some (4,49)/\
 kV ff 63 4=some (4,5)/\
 mq ff 63=none/\
 mI ff 63=some [.int .i64 0,.int .i64 0,.int .i64 0,.int .i64 0,.int .i64 0,.int .i64 0,.str fj,.kJ true 0 [],.kJ true 0 []]/\
 pq ff 63=false/\
 l4 ff 63=true/\
 nA ff 63=true/\
 mS ff 72=some (false,1)/\
 mq ff 72=none/\
 mI ff 72=some [.sX .nilFunc]/\
 pq ff 72=false/\
 l4 ff 72=true/\
 nA ff 72=true/\
 mS ff 74=some (false,1)/\
 mq ff 74=none/\
 mI ff 74=some [.sX .nilFunc]/\
 pq ff 74=false/\
 l4 ff 74=true/\
 nA ff 74=true/\
 mS ff 76=some (false,1)/\
 mq ff 76=none/\
 mI ff 76=some [.sX (.pointer none)]/\
 pq ff 76=false/\
 l4 ff 76=true/\
 nA ff 76=true/\
 mS ff 85=some (true,2)/\
 rG ff 85=true/\
 oh ff 85 0=some (0,28)/\
 kV ff 85 0=some (0,1)/\
 oh ff 85 1=some (1,3)/\
 kV ff 85 1=some (1,1)/\
 mq ff 85=none:=
 ⟨jO,jO,jO,jO,jO,jO,jO,jO,jO,jO,jO,jO,jO,jO,jO,jO,jO,jO,jO,jO,jO,jO,jO,jO,jO,jO,jO,jO,jO,jO,jO,jO,jO,jO,jO,jO,jO,jO,jO,jO,jO,jO,jO,jO,jO,jO,jO,jO,jO,jO,jO,jO,jO,jO,jO,jO,jO,jO,jO,jO,jO,jO,jO,jO,jO,jO,jO,jO,jO,jO,jO,jO,jO,jO,jO,jO,jO,jO,jO,jO,jO,jO,jO,jO,jO,jO,jO,jO,jO,jO,jO,jO,jO,jO,jO,jO,jO,jO,jO,jO,jO,jO,jO,jO,jO,jO,jO,jO,jO,jO,jO,jO,jO,jO,jO,jO,jO,jO,jO,jO⟩
def tf2:
 mI ff 85=some [.int .i64 0,.int .i64 0]/\
 pq ff 85=false/\
 l4 ff 85=true/\
 nA ff 85=true/\
 mS ff 87=some (false,1)/\
 mq ff 87=none/\
 mI ff 87=some [.sX (.pointer none)]/\
 pq ff 87=false/\
 l4 ff 87=true/\
 nA ff 87=true/\
 mS ff 96=some (false,1)/\
 mq ff 96=some (116,2,16)/\
 mI ff 96=some [.kJ true 0 []]/\
 pq ff 96=false/\
 l4 ff 96=true/\
 nA ff 96=true/\
 mS ff 98=some (true,2)/\
 rG ff 98=true/\
 oh ff 98 0=some (0,3)/\
 kV ff 98 0=some (0,1)/\
 oh ff 98 1=some (1,96)/\
 kV ff 98 1=some (1,1)/\
 mq ff 98=none/\
 mI ff 98=some [.int .i64 0,.kJ true 0 []]/\
 pq ff 98=false/\
 l4 ff 98=true/\
 nA ff 98=true/\
 mS ff 99=some (false,1)/\
 mq ff 99=none/\
 mI ff 99=some [.sX .nilFunc]/\
 pq ff 99=false/\
 l4 ff 99=true/\
 nA ff 99=true/\
 mS ff 100=some (false,1)/\
 mq ff 100=none/\
 mI ff 100=some [.sX (.pointer none)]/\
 pq ff 100=false/\
 l4 ff 100=true/\
 nA ff 100=true/\
 mS ff 102=some (false,1)/\
 mq ff 102=some (9,1,16)/\
 mI ff 102=some [.kJ true 0 []]/\
 pq ff 102=false/\
 l4 ff 102=true/\
 nA ff 102=true/\
 mS ff 104=some (true,11)/\
 rG ff 104=true/\
 oh ff 104 0=some (0,45)/\
 kV ff 104 0=some (0,7)/\
 oh ff 104 1=some (7,102)/\
 kV ff 104 1=some (7,1)/\
 oh ff 104 2=some (8,23)/\
 kV ff 104 2=some (8,1)/\
 oh ff 104 3=some (9,23)/\
 kV ff 104 3=some (9,1)/\
 oh ff 104 4=some (10,23)/\
 kV ff 104 4=some (10,1)/\
 mq ff 104=none/\
 mI ff 104=some [.kJ true 0 [],.kJ true 0 [],.kJ true 0 [],.kJ true 0 [],.kJ true 0 [],.kJ true 0 [],.kJ true 0 [],.kJ true 0 [],.kJ true 0 [],.kJ true 0 [],.kJ true 0 []]/\
 pq ff 104=false/\
 l4 ff 104=true/\
 nA ff 104=true/\
 mS ff 107=some (true,10)/\
 rG ff 107=true/\
 oh ff 107 0=some (0,45)/\
 kV ff 107 0=some (0,7)/\
 oh ff 107 1=some (7,23)/\
 kV ff 107 1=some (7,1)/\
 oh ff 107 2=some (8,23)/\
 kV ff 107 2=some (8,1)/\
 oh ff 107 3=some (9,23)/\
 kV ff 107 3=some (9,1)/\
 mq ff 107=none/\
 mI ff 107=some [.kJ true 0 [],.kJ true 0 [],.kJ true 0 [],.kJ true 0 [],.kJ true 0 [],.kJ true 0 [],.kJ true 0 [],.kJ true 0 [],.kJ true 0 [],.kJ true 0 []]/\
 pq ff 107=false/\
 l4 ff 107=true/\
 nA ff 107=true/\
 mS ff 110=some (false,1)/\
 mq ff 110=some (114,2,24)/\
 mI ff 110=some [.kJ true 0 []]/\
 pq ff 110=false/\
 l4 ff 110=true/\
 nA ff 110=true/\
 mS ff 112=some (true,2)/\
 rG ff 112=true/\
 oh ff 112 0=some (0,4)/\
 kV ff 112 0=some (0,1)/\
 oh ff 112 1=some (1,110)/\
 kV ff 112 1=some (1,1)/\
 mq ff 112=none/\
 mI ff 112=some [.bool false,.kJ true 0 []]/\
 pq ff 112=false/\
 l4 ff 112=true/\
 nA ff 112=true/\
 mS ff 114=some (true,2)/\
 rG ff 114=true/\
 oh ff 114 0=some (0,9)/\
 kV ff 114 0=some (0,1)/\
 oh ff 114 1=some (1,3)/\
 kV ff 114 1=some (1,1)/\
 mq ff 114=none/\
 mI ff 114=some [.str fj,.int .i64 0]/\
 pq ff 114=false/\
 l4 ff 114=true/\
 nA ff 114=true/\
 mS ff 116=some (true,2)/\
 rG ff 116=true/\
 oh ff 116 0=some (0,3)/\
 kV ff 116 0=some (0,1)/\
 oh ff 116 1=some (1,3)/\
 kV ff 116 1=some (1,1)/\
 mq ff 116=none/\
 mI ff 116=some [.int .i64 0,.int .i64 0]/\
 pq ff 116=false/\
 l4 ff 116=true/\
 nA ff 116=true/\
 mS ff 126=some (false,1)/\
 mq ff 126=some (199,6,96)/\
 mI ff 126=some [.kJ true 0 []]/\
 pq ff 126=false:=
 ⟨jO,jO,jO,jO,jO,jO,jO,jO,jO,jO,jO,jO,jO,jO,jO,jO,jO,jO,jO,jO,jO,jO,jO,jO,jO,jO,jO,jO,jO,jO,jO,jO,jO,jO,jO,jO,jO,jO,jO,jO,jO,jO,jO,jO,jO,jO,jO,jO,jO,jO,jO,jO,jO,jO,jO,jO,jO,jO,jO,jO,jO,jO,jO,jO,jO,jO,jO,jO,jO,jO,jO,jO,jO,jO,jO,jO,jO,jO,jO,jO,jO,jO,jO,jO,jO,jO,jO,jO,jO,jO,jO,jO,jO,jO,jO,jO,jO,jO,jO,jO,jO,jO,jO,jO,jO,jO,jO,jO,jO,jO,jO,jO,jO,jO,jO,jO,jO,jO,jO,jO⟩
def tf3:
 l4 ff 126=true/\
 nA ff 126=true/\
 mS ff 128=some (true,7)/\
 rG ff 128=true/\
 oh ff 128 0=some (0,3)/\
 kV ff 128 0=some (0,1)/\
 oh ff 128 1=some (1,49)/\
 kV ff 128 1=some (1,5)/\
 oh ff 128 2=some (6,47)/\
 kV ff 128 2=some (6,1)/\
 mq ff 128=none/\
 mI ff 128=some [.int .i64 0,.int .i64 0,.int .i64 0,.str fj,.kJ true 0 [],.kJ true 0 [],.kJ true 0 []]/\
 pq ff 128=false/\
 l4 ff 128=true/\
 nA ff 128=true/\
 mS ff 129=some (false,1)/\
 mq ff 129=some (204,15,224)/\
 mI ff 129=some [.kJ true 0 []]/\
 pq ff 129=false/\
 l4 ff 129=true/\
 nA ff 129=true/\
 mS ff 131=some (true,23)/\
 rG ff 131=true/\
 oh ff 131 0=some (0,3)/\
 kV ff 131 0=some (0,1)/\
 oh ff 131 1=some (1,9)/\
 kV ff 131 1=some (1,1)/\
 oh ff 131 2=some (2,3)/\
 kV ff 131 2=some (2,1)/\
 oh ff 131 3=some (3,49)/\
 kV ff 131 3=some (3,5)/\
 oh ff 131 4=some (8,49)/\
 kV ff 131 4=some (8,5)/\
 oh ff 131 5=some (13,3)/\
 kV ff 131 5=some (13,1)/\
 oh ff 131 6=some (14,126)/\
 kV ff 131 6=some (14,1)/\
 oh ff 131 7=some (15,128)/\
 kV ff 131 7=some (15,7)/\
 oh ff 131 8=some (22,129)/\
 kV ff 131 8=some (22,1)/\
 mq ff 131=none/\
 mI ff 131=some [.int .i64 0,.str fj,.int .i64 0,.int .i64 0,.int .i64 0,.str fj,.kJ true 0 [],.kJ true 0 [],.int .i64 0,.int .i64 0,.str fj,.kJ true 0 [],.kJ true 0 [],.int .i64 0,.kJ true 0 [],.int .i64 0,.int .i64 0,.int .i64 0,.str fj,.kJ true 0 [],.kJ true 0 [],.kJ true 0 [],.kJ true 0 []]/\
 pq ff 131=false/\
 l4 ff 131=true/\
 nA ff 131=true/\
 mS ff 134=some (false,1)/\
 mq ff 134=none/\
 mI ff 134=some [.sX .nilFunc]/\
 pq ff 134=false/\
 l4 ff 134=true/\
 nA ff 134=true/\
 mS ff 135=some (false,1)/\
 mq ff 135=none/\
 mI ff 135=some [.sX (.pointer none)]/\
 pq ff 135=false/\
 l4 ff 135=true/\
 nA ff 135=true/\
 mS ff 136=some (false,1)/\
 mq ff 136=none/\
 mI ff 136=some [.sX (.pointer none)]/\
 pq ff 136=false/\
 l4 ff 136=true/\
 nA ff 136=true/\
 mS ff 137=some (false,1)/\
 mq ff 137=some (5,1,1)/\
 mI ff 137=some [.kJ true 0 []]/\
 pq ff 137=false/\
 l4 ff 137=true/\
 nA ff 137=true/\
 mS ff 139=some (true,2)/\
 rG ff 139=true/\
 oh ff 139 0=some (0,136)/\
 kV ff 139 0=some (0,1)/\
 oh ff 139 1=some (1,137)/\
 kV ff 139 1=some (1,1)/\
 mq ff 139=none/\
 mI ff 139=some [.sX (.pointer none),.kJ true 0 []]/\
 pq ff 139=false/\
 l4 ff 139=true/\
 nA ff 139=true/\
 mS ff 141=some (true,4)/\
 rG ff 141=true/\
 oh ff 141 0=some (0,139)/\
 kV ff 141 0=some (0,2)/\
 oh ff 141 1=some (2,22)/\
 kV ff 141 1=some (2,1)/\
 oh ff 141 2=some (3,4)/\
 kV ff 141 2=some (3,1)/\
 mq ff 141=none/\
 mI ff 141=some [.sX (.pointer none),.kJ true 0 [],.kJ true 0 [],.bool false]/\
 pq ff 141=false/\
 l4 ff 141=true/\
 nA ff 141=true/\
 mS ff 142=some (false,1)/\
 mq ff 142=none/\
 mI ff 142=some [.sX .nilFunc]/\
 pq ff 142=false/\
 l4 ff 142=true/\
 nA ff 142=true/\
 mS ff 147=some (false,1)/\
 mq ff 147=none/\
 mI ff 147=some [.sX (.map none)]/\
 aiu ff 147=some (.agg [.kJ true 0 [],.int .i64 0,.int .i64 0,.str fj])/\
 pq ff 147=false/\
 l4 ff 147=true/\
 nA ff 147=true/\
 mS ff 148=some (false,1)/\
 mq ff 148=none/\
 mI ff 148=some [.sX (.map none)]/\
 aiu ff 148=some (.bool false)/\
 pq ff 148=false/\
 l4 ff 148=true/\
 nA ff 148=true/\
 mS ff 150=some (true,4)/\
 rG ff 150=true/\
 oh ff 150 0=some (0,147)/\
 kV ff 150 0=some (0,1)/\
 oh ff 150 1=some (1,147)/\
 kV ff 150 1=some (1,1):=
 ⟨jO,jO,jO,jO,jO,jO,jO,jO,jO,jO,jO,jO,jO,jO,jO,jO,jO,jO,jO,jO,jO,jO,jO,jO,jO,jO,jO,jO,jO,jO,jO,jO,jO,jO,jO,jO,jO,jO,jO,jO,jO,jO,jO,jO,jO,jO,jO,jO,jO,jO,jO,jO,jO,jO,jO,jO,jO,jO,jO,jO,jO,jO,jO,jO,jO,jO,jO,jO,jO,jO,jO,jO,jO,jO,jO,jO,jO,jO,jO,jO,jO,jO,jO,jO,jO,jO,jO,jO,jO,jO,jO,jO,jO,jO,jO,jO,jO,jO,jO,jO,jO,jO,jO,jO,jO,jO,jO,jO,jO,jO,jO,jO,jO,jO,jO,jO,jO,jO,jO,jO⟩
def tf4:
 oh ff 150 2=some (2,148)/\
 kV ff 150 2=some (2,1)/\
 oh ff 150 3=some (3,3)/\
 kV ff 150 3=some (3,1)/\
 mq ff 150=none/\
 mI ff 150=some [.sX (.map none),.sX (.map none),.sX (.map none),.int .i64 0]/\
 pq ff 150=false/\
 l4 ff 150=true/\
 nA ff 150=true/\
 mS ff 155=some (false,1)/\
 mq ff 155=some (170,3,32)/\
 mI ff 155=some [.kJ true 0 []]/\
 pq ff 155=false/\
 l4 ff 155=true/\
 nA ff 155=true/\
 mS ff 157=some (true,3)/\
 rG ff 157=true/\
 oh ff 157 0=some (0,155)/\
 kV ff 157 0=some (0,1)/\
 oh ff 157 1=some (1,3)/\
 kV ff 157 1=some (1,1)/\
 oh ff 157 2=some (2,3)/\
 kV ff 157 2=some (2,1)/\
 mq ff 157=none/\
 mI ff 157=some [.kJ true 0 [],.int .i64 0,.int .i64 0]/\
 pq ff 157=false/\
 l4 ff 157=true/\
 nA ff 157=true/\
 mS ff 160=some (true,6)/\
 rG ff 160=true/\
 oh ff 160 0=some (0,157)/\
 kV ff 160 0=some (0,3)/\
 oh ff 160 1=some (3,22)/\
 kV ff 160 1=some (3,1)/\
 oh ff 160 2=some (4,23)/\
 kV ff 160 2=some (4,1)/\
 oh ff 160 3=some (5,3)/\
 kV ff 160 3=some (5,1)/\
 mq ff 160=none/\
 mI ff 160=some [.kJ true 0 [],.int .i64 0,.int .i64 0,.kJ true 0 [],.kJ true 0 [],.int .i64 0]/\
 pq ff 160=false/\
 l4 ff 160=true/\
 nA ff 160=true/\
 mS ff 166=some (false,1)/\
 mq ff 166=some (225,9,136)/\
 mI ff 166=some [.kJ true 0 []]/\
 pq ff 166=false/\
 l4 ff 166=true/\
 nA ff 166=true/\
 mS ff 170=some (true,3)/\
 rG ff 170=true/\
 oh ff 170 0=some (0,3)/\
 kV ff 170 0=some (0,1)/\
 oh ff 170 1=some (1,9)/\
 kV ff 170 1=some (1,1)/\
 oh ff 170 2=some (2,3)/\
 kV ff 170 2=some (2,1)/\
 mq ff 170=none/\
 mI ff 170=some [.int .i64 0,.str fj,.int .i64 0]/\
 pq ff 170=false/\
 l4 ff 170=true/\
 nA ff 170=true/\
 mS ff 175=some (false,1)/\
 mq ff 175=none/\
 mI ff 175=some [.sX .nilFunc]/\
 pq ff 175=false/\
 l4 ff 175=true/\
 nA ff 175=true/\
 mS ff 187=some (false,1)/\
 mq ff 187=none/\
 mI ff 187=some [.sX .nilFunc]/\
 pq ff 187=false/\
 l4 ff 187=true/\
 nA ff 187=true/\
 mS ff 199=some (true,6)/\
 rG ff 199=true/\
 oh ff 199 0=some (0,9)/\
 kV ff 199 0=some (0,1)/\
 oh ff 199 1=some (1,49)/\
 kV ff 199 1=some (1,5)/\
 mq ff 199=none/\
 mI ff 199=some [.str fj,.int .i64 0,.int .i64 0,.str fj,.kJ true 0 [],.kJ true 0 []]/\
 pq ff 199=false/\
 l4 ff 199=true/\
 nA ff 199=true/\
 mS ff 200=some (false,1)/\
 mq ff 200=some (345,10,144)/\
 mI ff 200=some [.kJ true 0 []]/\
 pq ff 200=false/\
 l4 ff 200=true/\
 nA ff 200=true/\
 mS ff 202=some (true,8)/\
 rG ff 202=true/\
 oh ff 202 0=some (0,3)/\
 kV ff 202 0=some (0,1)/\
 oh ff 202 1=some (1,49)/\
 kV ff 202 1=some (1,5)/\
 oh ff 202 2=some (6,3)/\
 kV ff 202 2=some (6,1)/\
 oh ff 202 3=some (7,200)/\
 kV ff 202 3=some (7,1)/\
 mq ff 202=none/\
 mI ff 202=some [.int .i64 0,.int .i64 0,.int .i64 0,.str fj,.kJ true 0 [],.kJ true 0 [],.int .i64 0,.kJ true 0 []]/\
 pq ff 202=false/\
 l4 ff 202=true/\
 nA ff 202=true/\
 mS ff 204=some (true,15)/\
 rG ff 204=true/\
 oh ff 204 0=some (0,9)/\
 kV ff 204 0=some (0,1)/\
 oh ff 204 1=some (1,49)/\
 kV ff 204 1=some (1,5)/\
 oh ff 204 2=some (6,3)/\
 kV ff 204 2=some (6,1)/\
 oh ff 204 3=some (7,202)/\
 kV ff 204 3=some (7,8)/\
 mq ff 204=none/\
 mI ff 204=some [.str fj,.int .i64 0,.int .i64 0,.str fj,.kJ true 0 [],.kJ true 0 [],.int .i64 0,.int .i64 0,.int .i64 0,.int .i64 0,.str fj,.kJ true 0 [],.kJ true 0 [],.int .i64 0,.kJ true 0 []]/\
 pq ff 204=false/\
 l4 ff 204=true:=
 ⟨jO,jO,jO,jO,jO,jO,jO,jO,jO,jO,jO,jO,jO,jO,jO,jO,jO,jO,jO,jO,jO,jO,jO,jO,jO,jO,jO,jO,jO,jO,jO,jO,jO,jO,jO,jO,jO,jO,jO,jO,jO,jO,jO,jO,jO,jO,jO,jO,jO,jO,jO,jO,jO,jO,jO,jO,jO,jO,jO,jO,jO,jO,jO,jO,jO,jO,jO,jO,jO,jO,jO,jO,jO,jO,jO,jO,jO,jO,jO,jO,jO,jO,jO,jO,jO,jO,jO,jO,jO,jO,jO,jO,jO,jO,jO,jO,jO,jO,jO,jO,jO,jO,jO,jO,jO,jO,jO,jO,jO,jO,jO,jO,jO,jO,jO,jO,jO,jO,jO,jO⟩
def tf5:
 nA ff 204=true/\
 mS ff 222=some (false,1)/\
 mq ff 222=none/\
 mI ff 222=some [.sX (.pointer none)]/\
 pq ff 222=false/\
 l4 ff 222=true/\
 nA ff 222=true/\
 mS ff 225=some (true,9)/\
 rG ff 225=true/\
 oh ff 225 0=some (0,9)/\
 kV ff 225 0=some (0,1)/\
 oh ff 225 1=some (1,37)/\
 kV ff 225 1=some (1,8)/\
 mq ff 225=none/\
 mI ff 225=some [.str fj,.int .i64 0,.str fj,.int .i64 0,.kJ true 0 [],.kJ true 0 [],.kJ true 0 [],.int .i64 0,.int .i64 0]/\
 pq ff 225=false/\
 l4 ff 225=true/\
 nA ff 225=true/\
 mS ff 234=some (false,1)/\
 mq ff 234=none/\
 mI ff 234=some [.sX .nilFunc]/\
 pq ff 234=false/\
 l4 ff 234=true/\
 nA ff 234=true/\
 mS ff 236=some (true,5)/\
 rG ff 236=true/\
 oh ff 236 0=some (0,4)/\
 kV ff 236 0=some (0,1)/\
 oh ff 236 1=some (1,4)/\
 kV ff 236 1=some (1,1)/\
 oh ff 236 2=some (2,3)/\
 kV ff 236 2=some (2,1)/\
 oh ff 236 3=some (3,3)/\
 kV ff 236 3=some (3,1)/\
 oh ff 236 4=some (4,3)/\
 kV ff 236 4=some (4,1)/\
 mq ff 236=none/\
 mI ff 236=some [.bool false,.bool false,.int .i64 0,.int .i64 0,.int .i64 0]/\
 pq ff 236=false/\
 l4 ff 236=true/\
 nA ff 236=true/\
 mS ff 237=some (true,65)/\
 axa ff 237=some (13,5)/\
 rG ff 237=true/\
 kV ff 237 0=some (0,5)/\
 kV ff 237 1=some (5,5)/\
 kV ff 237 2=some (10,5)/\
 kV ff 237 3=some (15,5)/\
 kV ff 237 4=some (20,5)/\
 kV ff 237 5=some (25,5)/\
 kV ff 237 6=some (30,5)/\
 kV ff 237 7=some (35,5)/\
 kV ff 237 8=some (40,5)/\
 kV ff 237 9=some (45,5)/\
 kV ff 237 10=some (50,5)/\
 kV ff 237 11=some (55,5)/\
 kV ff 237 12=some (60,5)/\
 mq ff 237=none/\
 mI ff 237=some [.bool false,.bool false,.int .i64 0,.int .i64 0,.int .i64 0,.bool false,.bool false,.int .i64 0,.int .i64 0,.int .i64 0,.bool false,.bool false,.int .i64 0,.int .i64 0,.int .i64 0,.bool false,.bool false,.int .i64 0,.int .i64 0,.int .i64 0,.bool false,.bool false,.int .i64 0,.int .i64 0,.int .i64 0,.bool false,.bool false,.int .i64 0,.int .i64 0,.int .i64 0,.bool false,.bool false,.int .i64 0,.int .i64 0,.int .i64 0,.bool false,.bool false,.int .i64 0,.int .i64 0,.int .i64 0,.bool false,.bool false,.int .i64 0,.int .i64 0,.int .i64 0,.bool false,.bool false,.int .i64 0,.int .i64 0,.int .i64 0,.bool false,.bool false,.int .i64 0,.int .i64 0,.int .i64 0,.bool false,.bool false,.int .i64 0,.int .i64 0,.int .i64 0,.bool false,.bool false,.int .i64 0,.int .i64 0,.int .i64 0]/\
 pq ff 237=false/\
 l4 ff 237=true/\
 nA ff 237=true/\
 mS ff 240=some (true,13)/\
 axa ff 240=some (13,1)/\
 rG ff 240=true/\
 aso ff 240=some 13/\
 kV ff 240 0=some (0,1)/\
 kV ff 240 1=some (1,1)/\
 kV ff 240 2=some (2,1)/\
 kV ff 240 3=some (3,1)/\
 kV ff 240 4=some (4,1)/\
 kV ff 240 5=some (5,1)/\
 kV ff 240 6=some (6,1)/\
 kV ff 240 7=some (7,1)/\
 kV ff 240 8=some (8,1)/\
 kV ff 240 9=some (9,1)/\
 kV ff 240 10=some (10,1)/\
 kV ff 240 11=some (11,1)/\
 kV ff 240 12=some (12,1)/\
 mq ff 240=none/\
 mI ff 240=some [.int .i64 0,.int .i64 0,.int .i64 0,.int .i64 0,.int .i64 0,.int .i64 0,.int .i64 0,.int .i64 0,.int .i64 0,.int .i64 0,.int .i64 0,.int .i64 0,.int .i64 0]/\
 pq ff 240=false/\
 l4 ff 240=true/\
 nA ff 240=true/\
 mS ff 244=some (false,1)/\
 mq ff 244=none/\
 mI ff 244=some [.sX .nilFunc]/\
 pq ff 244=false/\
 l4 ff 244=true/\
 nA ff 244=true/\
 mS ff 247=some (false,1)/\
 mq ff 247=some (3,1,8)/\
 mI ff 247=some [.kJ true 0 []]/\
 pq ff 247=false/\
 l4 ff 247=true/\
 nA ff 247=true/\
 mS ff 267=some (false,1)/\
 mq ff 267=none/\
 mI ff 267=some [.sX (.pointer none)]/\
 pq ff 267=false/\
 l4 ff 267=true/\
 nA ff 267=true/\
 mS ff 270=some (true,5)/\
 rG ff 270=true/\
 oh ff 270 0=some (0,9)/\
 kV ff 270 0=some (0,1)/\
 oh ff 270 1=some (1,3)/\
 kV ff 270 1=some (1,1)/\
 oh ff 270 2=some (2,148)/\
 kV ff 270 2=some (2,1)/\
 oh ff 270 3=some (3,148)/\
 kV ff 270 3=some (3,1)/\
 oh ff 270 4=some (4,148)/\
 kV ff 270 4=some (4,1)/\
 mq ff 270=none/\
 mI ff 270=some [.str fj,.int .i64 0,.sX (.map none),.sX (.map none),.sX (.map none)]/\
 pq ff 270=false/\
 l4 ff 270=true/\
 nA ff 270=true/\
 mS ff 271=some (false,1):=
 ⟨jO,jO,jO,jO,jO,jO,jO,jO,jO,jO,jO,jO,jO,jO,jO,jO,jO,jO,jO,jO,jO,jO,jO,jO,jO,jO,jO,jO,jO,jO,jO,jO,jO,jO,jO,jO,jO,jO,jO,jO,jO,jO,jO,jO,jO,jO,jO,jO,jO,jO,jO,jO,jO,jO,jO,jO,jO,jO,jO,jO,jO,jO,jO,jO,jO,jO,jO,jO,jO,jO,jO,jO,jO,jO,jO,jO,jO,jO,jO,jO,jO,jO,jO,jO,jO,jO,jO,jO,jO,jO,jO,jO,jO,jO,jO,jO,jO,jO,jO,jO,jO,jO,jO,jO,jO,jO,jO,jO,jO,jO,jO,jO,jO,jO,jO,jO,jO,jO,jO,jO⟩
def tf6:
 mq ff 271=some (23,1,24)/\
 mI ff 271=some [.kJ true 0 []]/\
 pq ff 271=false/\
 l4 ff 271=true/\
 nA ff 271=true/\
 mS ff 272=some (false,1)/\
 mq ff 272=none/\
 mI ff 272=some [.sX .nilFunc]/\
 pq ff 272=false/\
 l4 ff 272=true/\
 nA ff 272=true/\
 mS ff 273=some (true,4)/\
 axa ff 273=some (4,1)/\
 rG ff 273=true/\
 kV ff 273 0=some (0,1)/\
 kV ff 273 1=some (1,1)/\
 kV ff 273 2=some (2,1)/\
 kV ff 273 3=some (3,1)/\
 mq ff 273=none/\
 mI ff 273=some [.sX .nilFunc,.sX .nilFunc,.sX .nilFunc,.sX .nilFunc]/\
 pq ff 273=false/\
 l4 ff 273=true/\
 nA ff 273=true/\
 mS ff 281=some (false,1)/\
 mq ff 281=none/\
 mI ff 281=some [.sX .nilFunc]/\
 pq ff 281=false/\
 l4 ff 281=true/\
 nA ff 281=true/\
 mS ff 285=some (false,1)/\
 mq ff 285=some (9,1,16)/\
 mI ff 285=some [.kJ true 0 []]/\
 pq ff 285=false/\
 l4 ff 285=true/\
 nA ff 285=true/\
 mS ff 308=some (false,1)/\
 mq ff 308=none/\
 mI ff 308=some [.sX (.pointer none)]/\
 pq ff 308=false/\
 l4 ff 308=true/\
 nA ff 308=true/\
 mS ff 310=some (true,3)/\
 rG ff 310=true/\
 oh ff 310 0=some (0,76)/\
 kV ff 310 0=some (0,1)/\
 oh ff 310 1=some (1,35)/\
 kV ff 310 1=some (1,1)/\
 oh ff 310 2=some (2,3)/\
 kV ff 310 2=some (2,1)/\
 mq ff 310=none/\
 mI ff 310=some [.sX (.pointer none),.kJ true 0 [],.int .i64 0]/\
 pq ff 310=false/\
 l4 ff 310=true/\
 nA ff 310=true/\
 mS ff 312=some (true,0)/\
 rG ff 312=true/\
 mq ff 312=none/\
 mI ff 312=some []/\
 pq ff 312=false/\
 l4 ff 312=true/\
 nA ff 312=true/\
 mS ff 325=some (false,1)/\
 mq ff 325=none/\
 mI ff 325=some [.sX (.pointer none)]/\
 pq ff 325=false/\
 l4 ff 325=true/\
 nA ff 325=true/\
 mS ff 327=some (true,1)/\
 rG ff 327=true/\
 oh ff 327 0=some (0,147)/\
 kV ff 327 0=some (0,1)/\
 mq ff 327=none/\
 mI ff 327=some [.sX (.map none)]/\
 pq ff 327=false/\
 l4 ff 327=true/\
 nA ff 327=true/\
 mS ff 330=some (true,256)/\
 axa ff 330=some (256,1)/\
 rG ff 330=true/\
 aso ff 330=some 256/\
 mq ff 330=none/\
 pq ff 330=false/\
 l4 ff 330=true/\
 nA ff 330=true/\
 mS ff 332=some (false,1)/\
 mq ff 332=none/\
 mI ff 332=some [.sX .nilFunc]/\
 pq ff 332=false/\
 l4 ff 332=true/\
 nA ff 332=true/\
 mS ff 337=some (true,256)/\
 axa ff 337=some (256,1)/\
 rG ff 337=true/\
 mq ff 337=none/\
 pq ff 337=false/\
 l4 ff 337=true/\
 nA ff 337=true/\
 mS ff 345=some (true,10)/\
 rG ff 345=true/\
 oh ff 345 0=some (0,9)/\
 kV ff 345 0=some (0,1)/\
 oh ff 345 1=some (1,4)/\
 kV ff 345 1=some (1,1)/\
 oh ff 345 2=some (2,202)/\
 kV ff 345 2=some (2,8)/\
 mq ff 345=none/\
 mI ff 345=some [.str fj,.bool false,.int .i64 0,.int .i64 0,.int .i64 0,.str fj,.kJ true 0 [],.kJ true 0 [],.int .i64 0,.kJ true 0 []]/\
 pq ff 345=false/\
 l4 ff 345=true/\
 nA ff 345=true/\
 mS ff 347=some (true,25)/\
 rG ff 347=true/\
 oh ff 347 0=some (0,42)/\
 kV ff 347 0=some (0,1)/\
 oh ff 347 1=some (1,23)/\
 kV ff 347 1=some (1,1)/\
 oh ff 347 2=some (2,131)/\
 kV ff 347 2=some (2,23)/\
 mq ff 347=none/\
 mI ff 347=some [.kJ true 0 [],.kJ true 0 [],.int .i64 0,.str fj,.int .i64 0,.int .i64 0,.int .i64 0,.str fj,.kJ true 0 [],.kJ true 0 [],.int .i64 0,.int .i64 0,.str fj,.kJ true 0 [],.kJ true 0 [],.int .i64 0,.kJ true 0 [],.int .i64 0,.int .i64 0,.int .i64 0,.str fj,.kJ true 0 [],.kJ true 0 [],.kJ true 0 [],.kJ true 0 []]:=
 ⟨jO,jO,jO,jO,jO,jO,jO,jO,jO,jO,jO,jO,jO,jO,jO,jO,jO,jO,jO,jO,jO,jO,jO,jO,jO,jO,jO,jO,jO,jO,jO,jO,jO,jO,jO,jO,jO,jO,jO,jO,jO,jO,jO,jO,jO,jO,jO,jO,jO,jO,jO,jO,jO,jO,jO,jO,jO,jO,jO,jO,jO,jO,jO,jO,jO,jO,jO,jO,jO,jO,jO,jO,jO,jO,jO,jO,jO,jO,jO,jO,jO,jO,jO,jO,jO,jO,jO,jO,jO,jO,jO,jO,jO,jO,jO,jO,jO,jO,jO,jO,jO,jO,jO,jO,jO,jO,jO,jO,jO,jO,jO,jO,jO,jO,jO,jO,jO,jO,jO,jO⟩
def tf7:
 pq ff 347=false/\
 l4 ff 347=true/\
 nA ff 347=true/\
 mS ff 389=some (false,1)/\
 mq ff 389=none/\
 mI ff 389=some [.sX (.pointer none)]/\
 pq ff 389=false/\
 l4 ff 389=true/\
 nA ff 389=true/\
 mS ff 432=some (true,2)/\
 rG ff 432=true/\
 oh ff 432 0=some (0,9)/\
 kV ff 432 0=some (0,1)/\
 oh ff 432 1=some (1,247)/\
 kV ff 432 1=some (1,1)/\
 mq ff 432=none/\
 mI ff 432=some [.str fj,.kJ true 0 []]/\
 pq ff 432=false/\
 l4 ff 432=true/\
 nA ff 432=true/\
 tbl ff 4=true/\
 aEl ff 20=true/\
 azB ff=true:=
 ⟨jO,jO,jO,jO,jO,jO,jO,jO,jO,jO,jO,jO,jO,jO,jO,jO,jO,jO,jO,jO,jO,jO,jO⟩
def mixed:Tryz.prog.follows .mixedOrders=true:=jO
attribute [go_sem] tf0 tf1 tf2 tf3 tf4 tf5 tf6 tf7
open Go.Proofs
set_option maxRecDepth 100000
def j8.aKN(a b:j8):auI ff 114 a.cells b.cells=True:=by
 refine eq_true (avv (jO) (jO) (jO) ?_);rw[j8.jW,j8.jW];exact⟨⟨by decide,jO,jO,by dsimp only;kernel_rfl⟩,⟨by decide,jO,jO,rfl,.i64,jO⟩,trivial⟩
def j8.eqB(a b:j8):Go.Abs.eqB a.cells b.cells=((a.name==b.name)&&(a.plus==b.plus)):=by
 rw[j8.jW,j8.jW];simp only[Go.Abs.eqB,eq1,Ww,Bool.and_true]
attribute [go_sem] j8.aKN j8.eqB
def kD.aKN(a b:kD):auI ff 116 a.cells b.cells=True:=by
 refine eq_true (avv (jO) (jO) (jO) ?_);rw[kD.jW,kD.jW];exact⟨⟨by decide,jO,jO,rfl,.i64,jO⟩,⟨by decide,jO,jO,rfl,.i64,jO⟩,trivial⟩
def kD.eqB(a b:kD):Go.Abs.eqB a.cells b.cells=((a.index==b.index)&&(a.plus==b.plus)):=by
 rw[kD.jW,kD.jW];simp only[Go.Abs.eqB,eq1,Ww,Bool.and_true]
attribute [go_sem] kD.aKN kD.eqB
def lD.sc(x:lD):x.cells.map sc1=x.cells:=by
 rw[lD.jW];rfl
attribute [go_sem] lD.sc
def jS.aQ2:∀x y:jS,((kT jS.kr)).enc x=((kT jS.kr)).enc y->x=y:=fun x y h=>by
 have h2:jS.cells x=jS.cells y:=AV.agg.inj h;have h3:jS.of [] x.cells=jS.of [] y.cells:=by rw[h2]
 rw[jS.l9,jS.l9]at h3;exact Option.some.inj h3
def jS.aSe:(∀xs,anZ (kT jS.kr) (.map (mp (Qy (kT jS.kr)) xs))=some xs)/\anZ (kT jS.kr) (.map [])=some []/\anZ (kT jS.kr) (.map (mp Hq []))=some []:=aKr jS.aQ2
def jS.aQ3(l:Nat)(s:kp)(v:jS)(xs:List (kp×jS)):CS l (sb s) (.agg v.cells) (some (.map (mp (Qy (kT jS.kr)) xs)))=some {val:=.any,rd:=[l],up:=[(l,.map (mp (Qy (kT jS.kr)) (agE s v xs)))]}:=by
 have:=aMR (t:=(kT jS.kr)) (l:=l) (s:=s) (v:=v) (xs:=xs)
 rwa [show((kT jS.kr)).enc v=.agg v.cells from rfl]at this
attribute [go_sem] jS.aSe jS.aQ3
abbrev Te:Type:=(jQ×Unit)
abbrev T6:Type:=(Te×Unit)
abbrev Tb:Type:=(List (kp×jS))
abbrev Ta:Type:=(List (kp×Bool))
abbrev T7:Type:=((Int×Unit)×(Tb×(Tb×(Ta×Unit))))
abbrev T8:Type:=(kj×Unit)
abbrev T9:Type:=(((List jS)×(Bool×Unit))×(kp×Unit))
abbrev Tc:Type:=(((List Syntax)×(Int×Unit))×T7)
abbrev Td:Type:=(PR (T6×(Syntax×Unit)) (T6×T8))
abbrev Tf:Type:=((List kp)×Unit)
abbrev Tg:Type:=((Unit×Int)×((Int×Unit)×((Bool×Unit)×Unit)))
abbrev Th:Type:=(PR ((Te×((Syntax×Unit)×Unit))×Unit) ((Te×((Syntax×Unit)×Unit))×T8))
abbrev Ti:Type:=((Unit×Int)×(Unit×(Unit×(Ta×Tf))))
abbrev Tj:Type:=(List jZ)
abbrev Tk:Type:=(Unit×((Syntax×Unit)×((Int×Unit)×((Int×Unit)×Tc))))
abbrev Tl:Type:=((Syntax×Unit)×((Int×Unit)×((Int×Unit)×Unit)))
abbrev Tm:Type:=(PR ((Te×(Unit×(Unit×((List j8)×Unit))))×Unit) ((Te×(Unit×(Unit×((List j8)×Unit))))×T8))
abbrev Tn:Type:=((kI×Unit)×((kp×Unit)×((kp×Unit)×((Int×Unit)×Unit))))
abbrev To:Type:=((kp×(Int×Unit))×(Ta×(Ta×(Ta×Unit))))
abbrev Tp:Type:=((Unit×((List Syntax)×(Tb×Unit)))×Unit)
abbrev Tq:Type:=(PR (Tc×(Syntax×(Int×Unit))) (Tc×(Unit×Unit)))
abbrev Ts:Type:=(PR ((Unit×(Unit×((List j8)×T6)))×Unit) ((Unit×(Unit×((List j8)×T6)))×T8))
abbrev Tt:Type:=((List Syntax)×Unit)
abbrev Tu:Type:=(PR (Tc×(Syntax×Unit)) (Tc×(Unit×Unit)))
abbrev Tv:Type:=(Unit×(Tb×Unit))
abbrev Tw:Type:=((Unit×Int)×((Syntax×Unit)×((Syntax×Unit)×Unit)))
abbrev Tx:Type:=((List jX)×Unit)
abbrev TG:Type:=(List ke)
abbrev Tz:Type:=(PR (T6×(TG×Unit)) (T6×T8))
abbrev TA:Type:=(PR (T6×Unit) (T6×T8))
abbrev TC:Type:=(PR ((Te×(Unit×(Unit×(Tj×Unit))))×Unit) ((Te×(Unit×(Unit×(Tj×Unit))))×T8))
abbrev TD:Type:=(PR (T6×((List j8)×Unit)) (T6×T8))
abbrev TE:Type:=((Unit×Int)×(Unit×(Ta×Unit)))
abbrev TF:Type:=((List Syntax)×(Bool×Unit))
abbrev TH:Type:=(To×(Int×(Int×(Int×Unit))))
abbrev TI:Type:=((List jS)×Unit)
abbrev TJ:Type:=(PR ((Unit×(Unit×(Tj×T6)))×Unit) ((Unit×(Unit×(Tj×T6)))×T8))
abbrev TK:Type:=(T6×(kp×Unit))
abbrev TL:Type:=((kp×Unit)×Unit)
abbrev TM:Type:=(Tx×(jX×Unit))
abbrev TN:Type:=(PR (T6×(jZ×Unit)) (T6×T8))
abbrev TO:Type:=(Tv×(Int×Unit))
abbrev TP:Type:=(PR (T6×Tf) (T6×T8))
abbrev TQ:Type:=(PR (T6×Tt) (T6×T8))
abbrev TR:Type:=((Unit×Int)×Tn)
abbrev TS:Type:=((List lD)×Int×Int)
abbrev TT:Type:=(Unit×((Int×Unit)×((Bool×Unit)×Unit)))
abbrev TU:Type:=(PR (Unit×(ko×Unit)) (Unit×T8))
abbrev TV:Type:=((Unit×T6)×Unit)
abbrev TW:Type:=(Syntax×Int×Int)
abbrev TX:Type:=(PR (Unit×Unit) (T7×Unit))
abbrev TY:Type:=(T9×(Int×Unit))
abbrev TZ:Type:=(Tv×(jS×TF))
abbrev T10:Type:=(PR (T7×(kp×Tf)) (T7×(kp×Tf)))
abbrev T11:Type:=(Tv×(Bool×Unit))
abbrev T12:Type:=(Unit×(Unit×(Unit×(Ta×Tf))))
abbrev T13:Type:=(T7×(Int×Unit))
abbrev T14:Type:=(PR (T6×(Int×Unit)) (T6×T8))
abbrev T15:Type:=(PR (T6×(Tj×Unit)) (T6×T8))
abbrev T16:Type:=((kp×Unit)×(Bool×Unit))
abbrev T17:Type:=((Tj×Unit)×Unit)
abbrev T18:Type:=(Tc×(kp×(Bool×Unit)))
abbrev T19:Type:=(Unit×((Syntax×Unit)×((Syntax×Unit)×Unit)))
abbrev T1a:Type:=(PR (T6×Unit) (Unit×T8))
abbrev T1b:Type:=(TL×(Int×Unit))
abbrev T1c:Type:=(jZ×Int)
end Go.Abs
