/- A part of the proof: the data of the program. -/
import Derived.Test.YtdkeelhebopgkaaGreatDoorCoreC
import Derived.Test.YtdkeelhebopgkaaGreatDoorProg
import Derived.KernelRfl
import Derived.Test.YtdkeelhebopgkaaGreatDoorCoreD
set_option linter.all false
open Go.Proofs.Tryz renaming prog → eS
open Option renaming bind_eq_some_iff → eT
open Option.some renaming injEq → eU
open ByteArray renaming empty → eV
open Bool renaming true_or → eW
namespace Go.Abs
variable {cs:List AV}{H:List jS}{n:Nat}{β:Type}
set_option maxRecDepth 10000
def ajv(n:Nat)(x:Int):uB n (S6 x):=⟨trivial,trivial⟩
def aro(n:Nat)(x:Int):uB n (acN x):=⟨trivial,trivial⟩
def TV(n:Nat)(x:Str):uB n (mA x):=⟨trivial,trivial⟩
def ajw(n:Nat)(x:Bool):uB n (Yj x):=⟨trivial,trivial⟩
def pY{α:Type}{f:α->List AV}{n:Nat}(h: ∀x,uB n (f x)): ∀xs:List α,LK n (mp f xs)
 |[]=>by rw[qF];trivial
 |x::xs=>by have:=pY h xs;rw[qF] at this ⊢;exact⟨h x,this⟩
def Af(h:cs.length=n):lG true n cs=some (.agg cs):=by
 simp only[lG,<-h,Nat.le_refl,jD,List.take_length]
def arp:(∀(n:Nat)(xs:List Int),LK n (mp S6 xs)=True)/\(∀(n:Nat)(xs:List Int),LK n (mp acN xs)=True)/\(∀(n:Nat)(xs:List Str),LK n (mp mA xs)=True)/\ ∀(n:Nat)(xs:List Bool),LK n (mp Yj xs)=True:=⟨fun n xs=>eq_true (pY (ajv n) xs),fun n xs=>eq_true (pY (aro n) xs),fun n xs=>eq_true (pY (TV n) xs),fun n xs=>eq_true (pY (ajw n) xs)⟩
def aoT:(∀(ρ:Nat->Nat)(xs:List Int),CP ρ (mp S6 xs)=mp S6 xs)/\(∀(ρ:Nat->Nat)(xs:List Str),CP ρ (mp mA xs)=mp mA xs)/\ ∀(ρ:Nat->Nat)(xs:List Bool),CP ρ (mp Yj xs)=mp Yj xs:=⟨fun ρ xs=>tN ρ _ (pY (ajv 0) xs),fun ρ xs=>tN ρ _ (pY (TV 0) xs),fun ρ xs=>tN ρ _ (pY (ajw 0) xs)⟩
attribute [go_sem] S6 mA Yj acN arp aoT
def FN {α:Type}{f:β->Option α}{g:α->β}(h: ∀x,f (g x)=some x): ∀(xs:List α)(i:Nat)(r:β),pN f ((mp g xs).set i r)=bif decide (i<xs.length) then(f r).bind fun y=>some (xs.set i y) else some xs:=by
 intro xs;rw[qF];induction xs with
 |nil=>intro i r;simp [pN]
 |cons x xs ih=>
  intro i r;cases i with
  |zero=>
   simp only[List.map_cons,List.set_cons_zero,pN,acM h,List.length_cons,Nat.zero_lt_succ,decide_true,ju];cases f r<;>rfl
  |succ i=>
   simp only[List.map_cons,List.set_cons_succ,pN,h,ih i r,List.length_cons,Nat.succ_lt_succ_iff,Option.bind_some];by_cases hi:i<xs.length
   ·simp only[hi,decide_true,ju];cases f r<;>rfl
   ·simp only[hi,decide_false,jv];rfl
def aoU:(∀(xs:List Int)(i:Nat)(r:List AV),pN (dI1 .i64) ((mp S6 xs).set i r)=bif decide (i<xs.length) then(dI1 .i64 r).bind fun y=>some (xs.set i y) else some xs)/\(∀(xs:List Bool)(i:Nat)(r:List AV),pN dB1 ((mp Yj xs).set i r)=bif decide (i<xs.length) then(dB1 r).bind fun y=>some (xs.set i y) else some xs)/\(∀(xs:List Str)(i:Nat)(r:List AV),pN dS1 ((mp mA xs).set i r)=bif decide (i<xs.length) then(dS1 r).bind fun y=>some (xs.set i y) else some xs):=⟨FN fun x=>by simp [dI1,S6,dI],FN fun x=>rfl,FN fun x=>rfl⟩
attribute [go_sem] aoU
def afu{α β:Type}{f:β->Option α}{z:β}: ∀n:Nat,pN f (List.replicate n z)=bif n==0 then some [] else(f z).bind fun y=>some (List.replicate n y)
 |0=>rfl
 |n+1=>by
  simp only[List.replicate_succ,pN,afu n];cases f z with
  |none=>rfl
  |some y=>cases n<;>rfl
attribute [go_sem] afu
def aw2{t:Bool}{z k:Nat}{r tV:List (List AV)}{o:Option β}{x:β}(hok:o=some x->PM r tV)(h:(bif FJ z k r then o else none)=some x):Sub (.lI t z r) (.lI false k tV):=by
 cases hs:FJ z k r with
 |false=>simp [hs] at h
 |true=>rw[hs] at h;exact PV hs (hok h)
structure jP where
 name:Str
 plus:Int
def jP.cells(x:jP):List AV:=[.str (sb x.name),.int .i64 x.plus]
theorem jP.nD(x:jP):x.cells=[.str (sb x.name),.int .i64 x.plus]:=rfl
theorem jP.cells_eq(x:jP):x.cells=[.str (sb x.name),.int .i64 x.plus]:=rfl
attribute [irreducible] jP.cells
theorem jP.length(x:jP):x.cells.length=2:=by rw[jP.cells_eq];rfl
def jP.scalar(x:jP):x.cells.all AV.scalar=true:=by rw[jP.cells_eq];rfl
theorem jP.nb(n:Nat)(x:jP):uB n x.cells:=by
 rw[jP.nD];exact⟨trivial,trivial,trivial⟩
def jP.of(H:List jS):List AV->Option jP
 |[c0,c1]=>(dS c0).bind fun x0=>(dI .i64 c1).bind fun x1=>some (.mk x0 x1)
 |_=>none
def jP.uk{c0 c1:AV}:jP.of H [c0,c1]=(dS c0).bind fun x0=>(dI .i64 c1).bind fun x1=>some (.mk x0 x1):=rfl
def jP.nR(H:List jS)(x:jP):jP.of H [.str (sb x.name),.int .i64 x.plus]=some x:=by
 simp only[jP.uk,KN,FK,SZ,u3,FJ,beq_self_eq_true,eW,ju,dL]
 try (cases x;rfl)
theorem jP.pZ(H:List jS)(x:jP):jP.of H x.cells=some x:=by rw[jP.cells_eq];exact jP.nR H x
def jP.yN{x:jP}(h:jP.of H cs=some x):oe H n cs x.cells:=by
 unfold jP.of at h;split at h
 ·simp only[eT,eU] at h;obtain⟨x0,h0,x1,h1,rfl⟩:=h;rw[jP.nD];exact(oe.cons (Yi h0) (oe.cons (C6 h1) oe.nil))
 ·cases h
def jP.ky:SE jP:=⟨jP.cells,jP.of,fun _ _ _ _ h=>jP.yN h,jP.nb⟩
def jP.row:Row jP:=⟨jP.cells,jP.of [],2,fun _ _ h=>(jP.yN (n:=0) h).oW,jP.nb⟩
def jP.ql(xs:List jP):pN (jP.of []) (mp jP.cells xs)=some xs:=Ep (jP.pZ []) xs
def jP.FN(xs:List jP)(i:Nat)(r:List AV):pN (jP.of []) ((mp jP.cells xs).set i r)=bif decide (i<xs.length) then(jP.of [] r).bind fun y=>some (xs.set i y) else some xs:=Go.Abs.FN (jP.pZ []) xs i r
attribute [go_sem low] jP.FN
def jP.IM:jP.row.enc=jP.cells/\jP.row.dec=jP.of []/\jP.row.sz=2/\jP.ky.enc=jP.cells/\jP.ky.dec=jP.of:=⟨rfl,rfl,rfl,rfl,rfl⟩
attribute [go_sem] jP.uk jP.pZ jP.ql jP.IM
def jP.prj:(∀(y0:Str)(y1:Int),(jP.mk y0 y1).name=y0)/\(∀(y0:Str)(y1:Int),(jP.mk y0 y1).plus=y1):=⟨fun _ _=>rfl,fun _ _=>rfl⟩
attribute [go_sem] jP.prj
def jP.nbs:(∀(n:Nat)(x:jP),Go.Abs.uB n x.cells=True)/\ ∀(n:Nat)(xs:List jP),Go.Abs.LK n (mp jP.cells xs)=True:=⟨fun n x=>eq_true (jP.nb n x),fun n xs=>eq_true (pY (jP.nb n) xs)⟩
def jP.ZV:(∀(ρ:Nat->Nat)(x:jP),qu ρ x.cells=x.cells)/\ ∀(ρ:Nat->Nat)(xs:List jP),CP ρ (mp jP.cells xs)=mp jP.cells xs:=⟨fun ρ x=>qQ ρ _ (jP.nb 0 x),fun ρ xs=>tN ρ _ (pY (jP.nb 0) xs)⟩
def jP.reads:
 (∀x:jP,cellsOf (.agg x.cells)=some x.cells)/\
 (∀x:jP,lG true 2 x.cells=some (.agg x.cells))/\
 (∀x:jP,lG false 1 x.cells=some (.str (sb x.name)))/\
 (∀x:jP,lG false 1 (x.cells.drop 1)=some (.int .i64 x.plus)):=
 ⟨fun x=>by simp only[cellsOf,jP.scalar,jD],
  fun x=>Af (jP.length x),
  fun x=>by rw[jP.cells_eq];rfl,
  fun x=>by rw[jP.cells_eq];rfl⟩
def jP.amm(x:jP)(o:Nat)(xs:List AV):tM x.cells o xs=tM [.str (sb x.name),.int .i64 x.plus] o xs:=by rw[jP.cells_eq]
attribute [go_sem] jP.nbs jP.ZV jP.reads jP.length jP.scalar
attribute [go_sem low] jP.amm
structure jM where
 hole:Bool
 qw:List jP
def jM.cells(x:jM):List AV:=[.bool x.hole,.lI false 2 (mp jP.cells x.qw)]
theorem jM.nD(x:jM):x.cells=[.bool x.hole,.lI false 2 (mp jP.cells x.qw)]:=rfl
theorem jM.cells_eq(x:jM):x.cells=[.bool x.hole,.lI false 2 (mp jP.cells x.qw)]:=rfl
attribute [irreducible] jM.cells
theorem jM.length(x:jM):x.cells.length=2:=by rw[jM.cells_eq];rfl
def jM.scalar(x:jM):x.cells.all AV.scalar=true:=by rw[jM.cells_eq];rfl
theorem jM.nb(n:Nat)(x:jM):uB n x.cells:=by
 rw[jM.nD];exact⟨trivial,pY (jP.nb n) _,trivial⟩
def jM.of(H:List jS):List AV->Option jM
 |[c0,c1]=>(dB c0).bind fun x0=>(dL jP.row H c1).bind fun x1=>some (.mk x0 x1)
 |_=>none
def jM.uk{c0 c1:AV}:jM.of H [c0,c1]=(dB c0).bind fun x0=>(dL jP.row H c1).bind fun x1=>some (.mk x0 x1):=rfl
def jM.nR(H:List jS)(x:jM):jM.of H [.bool x.hole,.lI false 2 (mp jP.cells x.qw)]=some x:=by
 simp only[jM.uk,KN,FK,SZ,u3,FJ,beq_self_eq_true,eW,ju,dL,jP.ql,jP.row]
 try (cases x;rfl)
theorem jM.pZ(H:List jS)(x:jM):jM.of H x.cells=some x:=by rw[jM.cells_eq];exact jM.nR H x
def jM.yN{x:jM}(h:jM.of H cs=some x):oe H n cs x.cells:=by
 unfold jM.of at h;split at h
 ·simp only[eT,eU] at h;obtain⟨x0,h0,x1,h1,rfl⟩:=h;rw[jM.nD];exact(oe.cons (ana h0) (oe.cons (Of h1) oe.nil))
 ·cases h
def jM.ky:SE jM:=⟨jM.cells,jM.of,fun _ _ _ _ h=>jM.yN h,jM.nb⟩
def jM.row:Row jM:=⟨jM.cells,jM.of [],2,fun _ _ h=>(jM.yN (n:=0) h).oW,jM.nb⟩
def jM.ql(xs:List jM):pN (jM.of []) (mp jM.cells xs)=some xs:=Ep (jM.pZ []) xs
def jM.FN(xs:List jM)(i:Nat)(r:List AV):pN (jM.of []) ((mp jM.cells xs).set i r)=bif decide (i<xs.length) then(jM.of [] r).bind fun y=>some (xs.set i y) else some xs:=Go.Abs.FN (jM.pZ []) xs i r
attribute [go_sem low] jM.FN
def jM.IM:jM.row.enc=jM.cells/\jM.row.dec=jM.of []/\jM.row.sz=2/\jM.ky.enc=jM.cells/\jM.ky.dec=jM.of:=⟨rfl,rfl,rfl,rfl,rfl⟩
attribute [go_sem] jM.uk jM.pZ jM.ql jM.IM
def jM.prj:(∀(y0:Bool)(y1:List jP),(jM.mk y0 y1).hole=y0)/\(∀(y0:Bool)(y1:List jP),(jM.mk y0 y1).qw=y1):=⟨fun _ _=>rfl,fun _ _=>rfl⟩
attribute [go_sem] jM.prj
def jM.nbs:(∀(n:Nat)(x:jM),Go.Abs.uB n x.cells=True)/\ ∀(n:Nat)(xs:List jM),Go.Abs.LK n (mp jM.cells xs)=True:=⟨fun n x=>eq_true (jM.nb n x),fun n xs=>eq_true (pY (jM.nb n) xs)⟩
def jM.ZV:(∀(ρ:Nat->Nat)(x:jM),qu ρ x.cells=x.cells)/\ ∀(ρ:Nat->Nat)(xs:List jM),CP ρ (mp jM.cells xs)=mp jM.cells xs:=⟨fun ρ x=>qQ ρ _ (jM.nb 0 x),fun ρ xs=>tN ρ _ (pY (jM.nb 0) xs)⟩
def jM.vw(H:List jS)(x:jM):vwL H x.cells=some (x.cells,[]):=Ky H _ (jM.nb 0 x)
attribute [go_sem] jM.vw
def jM.reads:
 (∀x:jM,cellsOf (.agg x.cells)=some x.cells)/\
 (∀x:jM,lG true 2 x.cells=some (.agg x.cells))/\
 (∀x:jM,lG false 1 x.cells=some (.bool x.hole))/\
 (∀x:jM,lG false 1 (x.cells.drop 1)=some (.lI false 2 (mp jP.cells x.qw))):=
 ⟨fun x=>by simp only[cellsOf,jM.scalar,jD],
  fun x=>Af (jM.length x),
  fun x=>by rw[jM.cells_eq];rfl,
  fun x=>by rw[jM.cells_eq];rfl⟩
def jM.amm(x:jM)(o:Nat)(xs:List AV):tM x.cells o xs=tM [.bool x.hole,.lI false 2 (mp jP.cells x.qw)] o xs:=by rw[jM.cells_eq]
attribute [go_sem] jM.nbs jM.ZV jM.reads jM.length jM.scalar
attribute [go_sem low] jM.amm
inductive Syntax where
 |mk (kind:Int) (text:Str) (num:Int) (names:List Str) (levels:List jM) (kids:List Syntax) (from_:Int) (to:Int)
def Syntax.kind:Syntax->Int| .mk x _ _ _ _ _ _ _=>x
def Syntax.text:Syntax->Str| .mk _ x _ _ _ _ _ _=>x
def Syntax.num:Syntax->Int| .mk _ _ x _ _ _ _ _=>x
def Syntax.names:Syntax->List Str| .mk _ _ _ x _ _ _ _=>x
def Syntax.levels:Syntax->List jM| .mk _ _ _ _ x _ _ _=>x
def Syntax.kids:Syntax->List Syntax| .mk _ _ _ _ _ x _ _=>x
def Syntax.from_:Syntax->Int| .mk _ _ _ _ _ _ x _=>x
def Syntax.to:Syntax->Int| .mk _ _ _ _ _ _ _ x=>x
mutual
def Syntax.cells:Syntax->List AV
 | .mk kind text num names levels kids from_ to=>[.int .i64 kind,.str (sb text),.int .i64 num,.lI false 1 (mp mA names),.lI false 2 (mp jM.cells levels),.lI false 8 (Syntax.agH kids),.int .i64 from_,.int .i64 to]
def Syntax.agH:List Syntax->List (List AV)
 |[]=>[]
 |t::ts=>t.cells::Syntax.agH ts
end
theorem Syntax.ZW: ∀ts:List Syntax,Syntax.agH ts=mp Syntax.cells ts
 |[]=>by rw[qF];rfl
 |t::ts=>by rw[Syntax.agH,Syntax.ZW ts,qF,qF];rfl
theorem Syntax.nD(x:Syntax):x.cells=[.int .i64 x.kind,.str (sb x.text),.int .i64 x.num,.lI false 1 (mp mA x.names),.lI false 2 (mp jM.cells x.levels),.lI false 8 (mp Syntax.cells x.kids),.int .i64 x.from_,.int .i64 x.to]:=by
 cases x;simp only[Syntax.cells,Syntax.ZW];rfl
theorem Syntax.cells_eq(x:Syntax):x.cells=[.int .i64 x.kind,.str (sb x.text),.int .i64 x.num,.lI false 1 (mp mA x.names),.lI false 2 (mp jM.cells x.levels),.lI false 8 (mp Syntax.cells x.kids),.int .i64 x.from_,.int .i64 x.to]:=by
 cases x;simp only[Syntax.cells,Syntax.ZW,List.cons_append,List.nil_append,List.append_nil];rfl
attribute [irreducible] Syntax.cells
theorem Syntax.length(x:Syntax):x.cells.length=8:=by rw[Syntax.cells_eq];rfl
def Syntax.scalar(x:Syntax):x.cells.all AV.scalar=true:=by rw[Syntax.cells_eq];rfl
mutual
theorem Syntax.nb(n:Nat): ∀x:Syntax,uB n x.cells
 | .mk kind text num names levels kids from_ to=>by
   rw[Syntax.nD];exact⟨trivial,trivial,trivial,pY (TV n) _,pY (jM.nb n) _,Syntax.LK n kids,trivial,trivial,trivial⟩
theorem Syntax.LK(n:Nat): ∀ts:List Syntax,LK n (mp Syntax.cells ts)
 |[]=>by rw[qF];trivial
 |t::ts=>by have:=Syntax.LK n ts;rw[qF] at this ⊢;exact⟨Syntax.nb n t,this⟩
end
mutual
def Syntax.of0:List AV->Option Syntax
 |[c0,c1,c2,c3,c4,.lI _ z5 r5,c6,c7]=>(dI .i64 c0).bind fun x0=>(dS c1).bind fun x1=>(dI .i64 c2).bind fun x2=>(dL l6 [] c3).bind fun x3=>(dL jM.row [] c4).bind fun x4=>(bif FJ z5 8 r5 then Syntax.ofR r5 else none).bind fun x5=>(dI .i64 c6).bind fun x6=>(dI .i64 c7).bind fun x7=>some (.mk x0 x1 x2 x3 x4 x5 x6 x7)
 |_=>none
def Syntax.ofR:List (List AV)->Option (List Syntax)
 |[]=>some []
 |r::rs=>(Syntax.of0 r).bind fun x=>(Syntax.ofR rs).bind fun xs=>some (x::xs)
end
def Syntax.arq: ∀rs,Syntax.ofR rs=pN Syntax.of0 rs
 |[]=>by simp only[Syntax.ofR,pN]
 |r::rs=>by simp only[Syntax.ofR,pN,Syntax.arq rs]
mutual
def Syntax.ZX: ∀x:Syntax,Syntax.of0 x.cells=some x
 | .mk kind text num names levels kids from_ to=>by
   rw[Syntax.cells_eq];show Syntax.of0 [.int .i64 kind,.str (sb text),.int .i64 num,.lI false 1 (mp mA names),.lI false 2 (mp jM.cells levels),.lI false 8 (mp Syntax.cells kids),.int .i64 from_,.int .i64 to]=_;simp only[Syntax.of0,KN,FK,SZ,u3,FJ,beq_self_eq_true,eW,ju,dL,Syntax.afv kids,jM.ql,jM.row,EX,ZN]
def Syntax.afv: ∀xs:List Syntax,Syntax.ofR (mp Syntax.cells xs)=some xs
 |[]=>by rw[qF];simp only[List.map_nil,Syntax.ofR]
 |x::xs=>by have h:=Syntax.afv xs;rw[qF] at h ⊢;simp only[List.map_cons,Syntax.ofR,Syntax.ZX x,h,u3]
end
mutual
def Syntax.ars: ∀(x:Syntax)(r:List AV),Syntax.of0 r=some x->Bj r x.cells
 | .mk kind text num names levels kids from_ to,r,h=>by
   unfold Syntax.of0 at h;split at h
   ·simp only[eT,eU,Syntax.mk.injEq] at h;obtain⟨x0,h0,x1,h1,x2,h2,x3,h3,x4,h4,x5,h5,x6,h6,x7,h7,e0,e1,e2,e3,e4,e5,e6,e7⟩:=h;rw[e0] at h0;rw[e1] at h1;rw[e2] at h2;rw[e3] at h3;rw[e4] at h4;rw[e5] at h5;rw[e6] at h6;rw[e7] at h7;rw[Syntax.nD];exact(Bj.cons ((C6 (H:=[]) (n:=0) h0).oW) (Bj.cons ((Yi (H:=[]) (n:=0) h1).oW) (Bj.cons ((C6 (H:=[]) (n:=0) h2).oW) (Bj.cons ((Of (H:=[]) (n:=0) h3).oW) (Bj.cons ((Of (H:=[]) (n:=0) h4).oW) (Bj.cons (aw2 (Syntax.art kids _) h5) (Bj.cons ((C6 (H:=[]) (n:=0) h6).oW) (Bj.cons ((C6 (H:=[]) (n:=0) h7).oW) Bj.nil))))))))
   ·cases h
def Syntax.art: ∀(xs:List Syntax)(rs:List (List AV)),Syntax.ofR rs=some xs->PM rs (mp Syntax.cells xs)
 |[],rs,h=>by
  cases rs with
  |nil=>rw[qF];exact PM.nil
  |cons r rs=>
   simp only[Syntax.ofR,eT,eU] at h;obtain⟨_,_,_,_,h⟩:=h;cases h
 |x::xs,rs,h=>by
  cases rs with
  |nil=>simp only[Syntax.ofR,eU] at h;cases h
  |cons r rs=>
   simp only[Syntax.ofR,eT,eU,List.cons.injEq] at h;obtain⟨_,hx,_,hys,rfl,rfl⟩:=h;have h2:=Syntax.art _ rs hys;rw[qF] at h2 ⊢;exact PM.cons (Syntax.ars _ r hx).asZ h2
end
def Syntax.row:Row Syntax:=⟨Syntax.cells,Syntax.of0,8,fun r x h=>Syntax.ars x r h,Syntax.nb⟩
def Syntax.ql(xs:List Syntax):pN Syntax.of0 (mp Syntax.cells xs)=some xs:=Ep Syntax.ZX xs
def Syntax.of(H:List jS):List AV->Option Syntax
 |[c0,c1,c2,c3,c4,c5,c6,c7]=>(dI .i64 c0).bind fun x0=>(dS c1).bind fun x1=>(dI .i64 c2).bind fun x2=>(dL l6 H c3).bind fun x3=>(dL jM.row H c4).bind fun x4=>(dL Syntax.row H c5).bind fun x5=>(dI .i64 c6).bind fun x6=>(dI .i64 c7).bind fun x7=>some (.mk x0 x1 x2 x3 x4 x5 x6 x7)
 |_=>none
def Syntax.uk{c0 c1 c2 c3 c4 c5 c6 c7:AV}:Syntax.of H [c0,c1,c2,c3,c4,c5,c6,c7]=(dI .i64 c0).bind fun x0=>(dS c1).bind fun x1=>(dI .i64 c2).bind fun x2=>(dL l6 H c3).bind fun x3=>(dL jM.row H c4).bind fun x4=>(dL Syntax.row H c5).bind fun x5=>(dI .i64 c6).bind fun x6=>(dI .i64 c7).bind fun x7=>some (.mk x0 x1 x2 x3 x4 x5 x6 x7):=rfl
def Syntax.nR(H:List jS)(x:Syntax):Syntax.of H [.int .i64 x.kind,.str (sb x.text),.int .i64 x.num,.lI false 1 (mp mA x.names),.lI false 2 (mp jM.cells x.levels),.lI false 8 (mp Syntax.cells x.kids),.int .i64 x.from_,.int .i64 x.to]=some x:=by
 simp only[Syntax.uk,KN,FK,SZ,u3,FJ,beq_self_eq_true,eW,ju,dL,jM.ql,jM.row,Syntax.ql,Syntax.row,EX,ZN]
 try (cases x;rfl)
theorem Syntax.pZ(H:List jS)(x:Syntax):Syntax.of H x.cells=some x:=by rw[Syntax.cells_eq];exact Syntax.nR H x
def Syntax.yN{x:Syntax}(h:Syntax.of H cs=some x):oe H n cs x.cells:=by
 unfold Syntax.of at h;split at h
 ·simp only[eT,eU] at h;obtain⟨x0,h0,x1,h1,x2,h2,x3,h3,x4,h4,x5,h5,x6,h6,x7,h7,rfl⟩:=h;rw[Syntax.nD];exact(oe.cons (C6 h0) (oe.cons (Yi h1) (oe.cons (C6 h2) (oe.cons (Of h3) (oe.cons (Of h4) (oe.cons (Of h5) (oe.cons (C6 h6) (oe.cons (C6 h7) oe.nil))))))))
 ·cases h
def Syntax.ky:SE Syntax:=⟨Syntax.cells,Syntax.of,fun _ _ _ _ h=>Syntax.yN h,Syntax.nb⟩
def Syntax.IM:Syntax.row.enc=Syntax.cells/\Syntax.row.dec=Syntax.of0/\Syntax.row.sz=8/\Syntax.ky.enc=Syntax.cells/\Syntax.ky.dec=Syntax.of:=⟨rfl,rfl,rfl,rfl,rfl⟩
def Syntax.eta(x:Syntax):Syntax.mk x.kind x.text x.num x.names x.levels x.kids x.from_ x.to=x:=by cases x;rfl
attribute [go_sem] Syntax.uk Syntax.pZ Syntax.ql Syntax.IM Syntax.eta Syntax.of0 Syntax.ZX Syntax.arq
def Syntax.prj:(∀(y0:Int)(y1:Str)(y2:Int)(y3:List Str)(y4:List jM)(y5:List Syntax)(y6:Int)(y7:Int),(Syntax.mk y0 y1 y2 y3 y4 y5 y6 y7).kind=y0)/\(∀(y0:Int)(y1:Str)(y2:Int)(y3:List Str)(y4:List jM)(y5:List Syntax)(y6:Int)(y7:Int),(Syntax.mk y0 y1 y2 y3 y4 y5 y6 y7).text=y1)/\(∀(y0:Int)(y1:Str)(y2:Int)(y3:List Str)(y4:List jM)(y5:List Syntax)(y6:Int)(y7:Int),(Syntax.mk y0 y1 y2 y3 y4 y5 y6 y7).num=y2)/\(∀(y0:Int)(y1:Str)(y2:Int)(y3:List Str)(y4:List jM)(y5:List Syntax)(y6:Int)(y7:Int),(Syntax.mk y0 y1 y2 y3 y4 y5 y6 y7).names=y3)/\(∀(y0:Int)(y1:Str)(y2:Int)(y3:List Str)(y4:List jM)(y5:List Syntax)(y6:Int)(y7:Int),(Syntax.mk y0 y1 y2 y3 y4 y5 y6 y7).levels=y4)/\(∀(y0:Int)(y1:Str)(y2:Int)(y3:List Str)(y4:List jM)(y5:List Syntax)(y6:Int)(y7:Int),(Syntax.mk y0 y1 y2 y3 y4 y5 y6 y7).kids=y5)/\(∀(y0:Int)(y1:Str)(y2:Int)(y3:List Str)(y4:List jM)(y5:List Syntax)(y6:Int)(y7:Int),(Syntax.mk y0 y1 y2 y3 y4 y5 y6 y7).from_=y6)/\(∀(y0:Int)(y1:Str)(y2:Int)(y3:List Str)(y4:List jM)(y5:List Syntax)(y6:Int)(y7:Int),(Syntax.mk y0 y1 y2 y3 y4 y5 y6 y7).to=y7):=⟨fun _ _ _ _ _ _ _ _=>rfl,fun _ _ _ _ _ _ _ _=>rfl,fun _ _ _ _ _ _ _ _=>rfl,fun _ _ _ _ _ _ _ _=>rfl,fun _ _ _ _ _ _ _ _=>rfl,fun _ _ _ _ _ _ _ _=>rfl,fun _ _ _ _ _ _ _ _=>rfl,fun _ _ _ _ _ _ _ _=>rfl⟩
attribute [go_sem] Syntax.prj
def Syntax.nbs:(∀(n:Nat)(x:Syntax),Go.Abs.uB n x.cells=True)/\ ∀(n:Nat)(xs:List Syntax),Go.Abs.LK n (mp Syntax.cells xs)=True:=⟨fun n x=>eq_true (Syntax.nb n x),fun n xs=>eq_true (pY (Syntax.nb n) xs)⟩
def Syntax.ZV:(∀(ρ:Nat->Nat)(x:Syntax),qu ρ x.cells=x.cells)/\ ∀(ρ:Nat->Nat)(xs:List Syntax),CP ρ (mp Syntax.cells xs)=mp Syntax.cells xs:=⟨fun ρ x=>qQ ρ _ (Syntax.nb 0 x),fun ρ xs=>tN ρ _ (pY (Syntax.nb 0) xs)⟩
def Syntax.vw(H:List jS)(x:Syntax):vwL H x.cells=some (x.cells,[]):=Ky H _ (Syntax.nb 0 x)
attribute [go_sem] Syntax.vw
theorem Syntax.frz(low:Nat)(H:List jS)(x:Syntax):ad3 low H x.cells=x.cells:=KI low H _ (Syntax.nb 0 x)
def Syntax.tk:(∀x:Syntax,List.take 8 x.cells=x.cells)/\ ∀x:Syntax,List.drop 8 x.cells=[]:=⟨fun x=>by rw[Syntax.cells_eq];rfl,fun x=>by rw[Syntax.cells_eq];rfl⟩
attribute [go_sem] Syntax.tk
def Syntax.reads:
 (∀x:Syntax,cellsOf (.agg x.cells)=some x.cells)/\
 (∀x:Syntax,lG true 8 x.cells=some (.agg x.cells))/\
 (∀x:Syntax,lG false 1 x.cells=some (.int .i64 x.kind))/\
 (∀x:Syntax,lG false 1 (x.cells.drop 1)=some (.str (sb x.text)))/\
 (∀x:Syntax,lG false 1 (x.cells.drop 2)=some (.int .i64 x.num))/\
 (∀x:Syntax,lG false 1 (x.cells.drop 3)=some (.lI false 1 (mp mA x.names)))/\
 (∀x:Syntax,lG false 1 (x.cells.drop 4)=some (.lI false 2 (mp jM.cells x.levels)))/\
 (∀x:Syntax,lG false 1 (x.cells.drop 5)=some (.lI false 8 (mp Syntax.cells x.kids)))/\
 (∀x:Syntax,lG false 1 (x.cells.drop 6)=some (.int .i64 x.from_))/\
 (∀x:Syntax,lG false 1 (x.cells.drop 7)=some (.int .i64 x.to)):=
 ⟨fun x=>by simp only[cellsOf,Syntax.scalar,jD],
  fun x=>Af (Syntax.length x),
  fun x=>by rw[Syntax.cells_eq];rfl,
  fun x=>by rw[Syntax.cells_eq];rfl,
  fun x=>by rw[Syntax.cells_eq];rfl,
  fun x=>by rw[Syntax.cells_eq];rfl,
  fun x=>by rw[Syntax.cells_eq];rfl,
  fun x=>by rw[Syntax.cells_eq];rfl,
  fun x=>by rw[Syntax.cells_eq];rfl,
  fun x=>by rw[Syntax.cells_eq];rfl⟩
def Syntax.amm(x:Syntax)(o:Nat)(xs:List AV):tM x.cells o xs=tM [.int .i64 x.kind,.str (sb x.text),.int .i64 x.num,.lI false 1 (mp mA x.names),.lI false 2 (mp jM.cells x.levels),.lI false 8 (mp Syntax.cells x.kids),.int .i64 x.from_,.int .i64 x.to] o xs:=by rw[Syntax.cells_eq]
def Syntax.cns(x:Syntax)(c:AV):c::x.cells=[c,.int .i64 x.kind,.str (sb x.text),.int .i64 x.num,.lI false 1 (mp mA x.names),.lI false 2 (mp jM.cells x.levels),.lI false 8 (mp Syntax.cells x.kids),.int .i64 x.from_,.int .i64 x.to]:=by rw[Syntax.cells_eq]
attribute [go_sem] Syntax.cns Syntax.nbs Syntax.ZV Syntax.frz Syntax.reads Syntax.length Syntax.scalar
attribute [go_sem low] Syntax.amm
structure j8 where
 kind:Int
 text:Str
 at_:Int
def j8.cells(x:j8):List AV:=[.int .i64 x.kind,.str (sb x.text),.int .i64 x.at_]
theorem j8.nD(x:j8):x.cells=[.int .i64 x.kind,.str (sb x.text),.int .i64 x.at_]:=rfl
theorem j8.cells_eq(x:j8):x.cells=[.int .i64 x.kind,.str (sb x.text),.int .i64 x.at_]:=rfl
attribute [irreducible] j8.cells
theorem j8.length(x:j8):x.cells.length=3:=by rw[j8.cells_eq];rfl
def j8.scalar(x:j8):x.cells.all AV.scalar=true:=by rw[j8.cells_eq];rfl
theorem j8.nb(n:Nat)(x:j8):uB n x.cells:=by
 rw[j8.nD];exact⟨trivial,trivial,trivial,trivial⟩
def j8.of(H:List jS):List AV->Option j8
 |[c0,c1,c2]=>(dI .i64 c0).bind fun x0=>(dS c1).bind fun x1=>(dI .i64 c2).bind fun x2=>some (.mk x0 x1 x2)
 |_=>none
def j8.uk{c0 c1 c2:AV}:j8.of H [c0,c1,c2]=(dI .i64 c0).bind fun x0=>(dS c1).bind fun x1=>(dI .i64 c2).bind fun x2=>some (.mk x0 x1 x2):=rfl
def j8.nR(H:List jS)(x:j8):j8.of H [.int .i64 x.kind,.str (sb x.text),.int .i64 x.at_]=some x:=by
 simp only[j8.uk,KN,FK,SZ,u3,FJ,beq_self_eq_true,eW,ju,dL]
 try (cases x;rfl)
theorem j8.pZ(H:List jS)(x:j8):j8.of H x.cells=some x:=by rw[j8.cells_eq];exact j8.nR H x
def j8.yN{x:j8}(h:j8.of H cs=some x):oe H n cs x.cells:=by
 unfold j8.of at h;split at h
 ·simp only[eT,eU] at h;obtain⟨x0,h0,x1,h1,x2,h2,rfl⟩:=h;rw[j8.nD];exact(oe.cons (C6 h0) (oe.cons (Yi h1) (oe.cons (C6 h2) oe.nil)))
 ·cases h
def j8.ky:SE j8:=⟨j8.cells,j8.of,fun _ _ _ _ h=>j8.yN h,j8.nb⟩
def j8.row:Row j8:=⟨j8.cells,j8.of [],3,fun _ _ h=>(j8.yN (n:=0) h).oW,j8.nb⟩
def j8.ql(xs:List j8):pN (j8.of []) (mp j8.cells xs)=some xs:=Ep (j8.pZ []) xs
def j8.IM:j8.row.enc=j8.cells/\j8.row.dec=j8.of []/\j8.row.sz=3/\j8.ky.enc=j8.cells/\j8.ky.dec=j8.of:=⟨rfl,rfl,rfl,rfl,rfl⟩
attribute [go_sem] j8.uk j8.pZ j8.ql j8.IM
def j8.prj:(∀(y0:Int)(y1:Str)(y2:Int),(j8.mk y0 y1 y2).kind=y0)/\(∀(y0:Int)(y1:Str)(y2:Int),(j8.mk y0 y1 y2).text=y1)/\(∀(y0:Int)(y1:Str)(y2:Int),(j8.mk y0 y1 y2).at_=y2):=⟨fun _ _ _=>rfl,fun _ _ _=>rfl,fun _ _ _=>rfl⟩
attribute [go_sem] j8.prj
def j8.nbs:(∀(n:Nat)(x:j8),Go.Abs.uB n x.cells=True)/\ ∀(n:Nat)(xs:List j8),Go.Abs.LK n (mp j8.cells xs)=True:=⟨fun n x=>eq_true (j8.nb n x),fun n xs=>eq_true (pY (j8.nb n) xs)⟩
def j8.vw(H:List jS)(x:j8):vwL H x.cells=some (x.cells,[]):=Ky H _ (j8.nb 0 x)
attribute [go_sem] j8.vw
theorem j8.frz(low:Nat)(H:List jS)(x:j8):ad3 low H x.cells=x.cells:=KI low H _ (j8.nb 0 x)
def j8.reads:
 (∀x:j8,cellsOf (.agg x.cells)=some x.cells)/\
 (∀x:j8,lG true 3 x.cells=some (.agg x.cells))/\
 (∀x:j8,lG false 1 x.cells=some (.int .i64 x.kind))/\
 (∀x:j8,lG false 1 (x.cells.drop 1)=some (.str (sb x.text)))/\
 (∀x:j8,lG false 1 (x.cells.drop 2)=some (.int .i64 x.at_)):=
 ⟨fun x=>by simp only[cellsOf,j8.scalar,jD],
  fun x=>Af (j8.length x),
  fun x=>by rw[j8.cells_eq];rfl,
  fun x=>by rw[j8.cells_eq];rfl,
  fun x=>by rw[j8.cells_eq];rfl⟩
attribute [go_sem] j8.nbs j8.frz j8.reads j8.length j8.scalar
structure jH where
 parts:List Str
 level:Int
 AT:Int
 target:Str
def jH.cells(x:jH):List AV:=[.lI false 1 (mp mA x.parts),.int .i64 x.level,.int .i64 x.AT,.str (sb x.target)]
theorem jH.nD(x:jH):x.cells=[.lI false 1 (mp mA x.parts),.int .i64 x.level,.int .i64 x.AT,.str (sb x.target)]:=rfl
theorem jH.cells_eq(x:jH):x.cells=[.lI false 1 (mp mA x.parts),.int .i64 x.level,.int .i64 x.AT,.str (sb x.target)]:=rfl
attribute [irreducible] jH.cells
theorem jH.length(x:jH):x.cells.length=4:=by rw[jH.cells_eq];rfl
def jH.scalar(x:jH):x.cells.all AV.scalar=true:=by rw[jH.cells_eq];rfl
theorem jH.nb(n:Nat)(x:jH):uB n x.cells:=by
 rw[jH.nD];exact⟨pY (TV n) _,trivial,trivial,trivial,trivial⟩
def jH.of(H:List jS):List AV->Option jH
 |[c0,c1,c2,c3]=>(dL l6 H c0).bind fun x0=>(dI .i64 c1).bind fun x1=>(dI .i64 c2).bind fun x2=>(dS c3).bind fun x3=>some (.mk x0 x1 x2 x3)
 |_=>none
def jH.uk{c0 c1 c2 c3:AV}:jH.of H [c0,c1,c2,c3]=(dL l6 H c0).bind fun x0=>(dI .i64 c1).bind fun x1=>(dI .i64 c2).bind fun x2=>(dS c3).bind fun x3=>some (.mk x0 x1 x2 x3):=rfl
def jH.nR(H:List jS)(x:jH):jH.of H [.lI false 1 (mp mA x.parts),.int .i64 x.level,.int .i64 x.AT,.str (sb x.target)]=some x:=by
 simp only[jH.uk,KN,FK,SZ,u3,FJ,beq_self_eq_true,eW,ju,dL,EX,ZN]
 try (cases x;rfl)
theorem jH.pZ(H:List jS)(x:jH):jH.of H x.cells=some x:=by rw[jH.cells_eq];exact jH.nR H x
def jH.yN{x:jH}(h:jH.of H cs=some x):oe H n cs x.cells:=by
 unfold jH.of at h;split at h
 ·simp only[eT,eU] at h;obtain⟨x0,h0,x1,h1,x2,h2,x3,h3,rfl⟩:=h;rw[jH.nD];exact(oe.cons (Of h0) (oe.cons (C6 h1) (oe.cons (C6 h2) (oe.cons (Yi h3) oe.nil))))
 ·cases h
def jH.ky:SE jH:=⟨jH.cells,jH.of,fun _ _ _ _ h=>jH.yN h,jH.nb⟩
def jH.row:Row jH:=⟨jH.cells,jH.of [],4,fun _ _ h=>(jH.yN (n:=0) h).oW,jH.nb⟩
def jH.ql(xs:List jH):pN (jH.of []) (mp jH.cells xs)=some xs:=Ep (jH.pZ []) xs
def jH.IM:jH.row.enc=jH.cells/\jH.row.dec=jH.of []/\jH.row.sz=4/\jH.ky.enc=jH.cells/\jH.ky.dec=jH.of:=⟨rfl,rfl,rfl,rfl,rfl⟩
attribute [go_sem] jH.uk jH.pZ jH.ql jH.IM
def jH.prj:(∀(y0:List Str)(y1:Int)(y2:Int)(y3:Str),(jH.mk y0 y1 y2 y3).parts=y0)/\(∀(y0:List Str)(y1:Int)(y2:Int)(y3:Str),(jH.mk y0 y1 y2 y3).level=y1)/\(∀(y0:List Str)(y1:Int)(y2:Int)(y3:Str),(jH.mk y0 y1 y2 y3).AT=y2)/\(∀(y0:List Str)(y1:Int)(y2:Int)(y3:Str),(jH.mk y0 y1 y2 y3).target=y3):=⟨fun _ _ _ _=>rfl,fun _ _ _ _=>rfl,fun _ _ _ _=>rfl,fun _ _ _ _=>rfl⟩
attribute [go_sem] jH.prj
def jH.nbs:(∀(n:Nat)(x:jH),Go.Abs.uB n x.cells=True)/\ ∀(n:Nat)(xs:List jH),Go.Abs.LK n (mp jH.cells xs)=True:=⟨fun n x=>eq_true (jH.nb n x),fun n xs=>eq_true (pY (jH.nb n) xs)⟩
def jH.vw(H:List jS)(x:jH):vwL H x.cells=some (x.cells,[]):=Ky H _ (jH.nb 0 x)
attribute [go_sem] jH.vw
def jH.reads:
 (∀x:jH,cellsOf (.agg x.cells)=some x.cells)/\
 (∀x:jH,lG true 4 x.cells=some (.agg x.cells))/\
 (∀x:jH,lG false 1 x.cells=some (.lI false 1 (mp mA x.parts)))/\
 (∀x:jH,lG false 1 (x.cells.drop 1)=some (.int .i64 x.level))/\
 (∀x:jH,lG false 1 (x.cells.drop 2)=some (.int .i64 x.AT))/\
 (∀x:jH,lG false 1 (x.cells.drop 3)=some (.str (sb x.target))):=
 ⟨fun x=>by simp only[cellsOf,jH.scalar,jD],
  fun x=>Af (jH.length x),
  fun x=>by rw[jH.cells_eq];rfl,
  fun x=>by rw[jH.cells_eq];rfl,
  fun x=>by rw[jH.cells_eq];rfl,
  fun x=>by rw[jH.cells_eq];rfl⟩
attribute [go_sem] jH.nbs jH.reads jH.length jH.scalar
structure jT where
 e:Int
 at_:Int
def jT.cells(x:jT):List AV:=[.int .i64 x.e,.int .i64 x.at_]
theorem jT.nD(x:jT):x.cells=[.int .i64 x.e,.int .i64 x.at_]:=rfl
theorem jT.cells_eq(x:jT):x.cells=[.int .i64 x.e,.int .i64 x.at_]:=rfl
attribute [irreducible] jT.cells
theorem jT.length(x:jT):x.cells.length=2:=by rw[jT.cells_eq];rfl
def jT.scalar(x:jT):x.cells.all AV.scalar=true:=by rw[jT.cells_eq];rfl
theorem jT.nb(n:Nat)(x:jT):uB n x.cells:=by
 rw[jT.nD];exact⟨trivial,trivial,trivial⟩
def jT.of(H:List jS):List AV->Option jT
 |[c0,c1]=>(dI .i64 c0).bind fun x0=>(dI .i64 c1).bind fun x1=>some (.mk x0 x1)
 |_=>none
def jT.uk{c0 c1:AV}:jT.of H [c0,c1]=(dI .i64 c0).bind fun x0=>(dI .i64 c1).bind fun x1=>some (.mk x0 x1):=rfl
def jT.nR(H:List jS)(x:jT):jT.of H [.int .i64 x.e,.int .i64 x.at_]=some x:=by
 simp only[jT.uk,KN,FK,SZ,u3,FJ,beq_self_eq_true,eW,ju,dL]
 try (cases x;rfl)
theorem jT.pZ(H:List jS)(x:jT):jT.of H x.cells=some x:=by rw[jT.cells_eq];exact jT.nR H x
def jT.yN{x:jT}(h:jT.of H cs=some x):oe H n cs x.cells:=by
 unfold jT.of at h;split at h
 ·simp only[eT,eU] at h;obtain⟨x0,h0,x1,h1,rfl⟩:=h;rw[jT.nD];exact(oe.cons (C6 h0) (oe.cons (C6 h1) oe.nil))
 ·cases h
def jT.ky:SE jT:=⟨jT.cells,jT.of,fun _ _ _ _ h=>jT.yN h,jT.nb⟩
def jT.row:Row jT:=⟨jT.cells,jT.of [],2,fun _ _ h=>(jT.yN (n:=0) h).oW,jT.nb⟩
def jT.IM:jT.row.enc=jT.cells/\jT.row.dec=jT.of []/\jT.row.sz=2/\jT.ky.enc=jT.cells/\jT.ky.dec=jT.of:=⟨rfl,rfl,rfl,rfl,rfl⟩
attribute [go_sem] jT.uk jT.pZ jT.IM
def jT.prj:(∀(y0:Int)(y1:Int),(jT.mk y0 y1).e=y0)/\(∀(y0:Int)(y1:Int),(jT.mk y0 y1).at_=y1):=⟨fun _ _=>rfl,fun _ _=>rfl⟩
attribute [go_sem] jT.prj
def jT.ZV:(∀(ρ:Nat->Nat)(x:jT),qu ρ x.cells=x.cells)/\ ∀(ρ:Nat->Nat)(xs:List jT),CP ρ (mp jT.cells xs)=mp jT.cells xs:=⟨fun ρ x=>qQ ρ _ (jT.nb 0 x),fun ρ xs=>tN ρ _ (pY (jT.nb 0) xs)⟩
def jT.vw(H:List jS)(x:jT):vwL H x.cells=some (x.cells,[]):=Ky H _ (jT.nb 0 x)
attribute [go_sem] jT.vw
def jT.reads:
 (∀x:jT,cellsOf (.agg x.cells)=some x.cells)/\
 (∀x:jT,lG true 2 x.cells=some (.agg x.cells))/\
 (∀x:jT,lG false 1 x.cells=some (.int .i64 x.e))/\
 (∀x:jT,lG false 1 (x.cells.drop 1)=some (.int .i64 x.at_)):=
 ⟨fun x=>by simp only[cellsOf,jT.scalar,jD],
  fun x=>Af (jT.length x),
  fun x=>by rw[jT.cells_eq];rfl,
  fun x=>by rw[jT.cells_eq];rfl⟩
attribute [go_sem] jT.ZV jT.reads jT.length jT.scalar
structure jU where
 tokens:List j8
 next:Int
 base:Int
def jU.cells(x:jU):List AV:=[.lI false 3 (mp j8.cells x.tokens),.int .i64 x.next,.int .i64 x.base]
theorem jU.nD(x:jU):x.cells=[.lI false 3 (mp j8.cells x.tokens),.int .i64 x.next,.int .i64 x.base]:=rfl
theorem jU.cells_eq(x:jU):x.cells=[.lI false 3 (mp j8.cells x.tokens),.int .i64 x.next,.int .i64 x.base]:=rfl
attribute [irreducible] jU.cells
theorem jU.length(x:jU):x.cells.length=3:=by rw[jU.cells_eq];rfl
def jU.scalar(x:jU):x.cells.all AV.scalar=true:=by rw[jU.cells_eq];rfl
theorem jU.nb(n:Nat)(x:jU):uB n x.cells:=by
 rw[jU.nD];exact⟨pY (j8.nb n) _,trivial,trivial,trivial⟩
def jU.of(H:List jS):List AV->Option jU
 |[c0,c1,c2]=>(dL j8.row H c0).bind fun x0=>(dI .i64 c1).bind fun x1=>(dI .i64 c2).bind fun x2=>some (.mk x0 x1 x2)
 |_=>none
def jU.uk{c0 c1 c2:AV}:jU.of H [c0,c1,c2]=(dL j8.row H c0).bind fun x0=>(dI .i64 c1).bind fun x1=>(dI .i64 c2).bind fun x2=>some (.mk x0 x1 x2):=rfl
def jU.nR(H:List jS)(x:jU):jU.of H [.lI false 3 (mp j8.cells x.tokens),.int .i64 x.next,.int .i64 x.base]=some x:=by
 simp only[jU.uk,KN,FK,SZ,u3,FJ,beq_self_eq_true,eW,ju,dL,j8.ql,j8.row]
 try (cases x;rfl)
def jU.yN{x:jU}(h:jU.of H cs=some x):oe H n cs x.cells:=by
 unfold jU.of at h;split at h
 ·simp only[eT,eU] at h;obtain⟨x0,h0,x1,h1,x2,h2,rfl⟩:=h;rw[jU.nD];exact(oe.cons (Of h0) (oe.cons (C6 h1) (oe.cons (C6 h2) oe.nil)))
 ·cases h
def jU.ky:SE jU:=⟨jU.cells,jU.of,fun _ _ _ _ h=>jU.yN h,jU.nb⟩
def jU.row:Row jU:=⟨jU.cells,jU.of [],3,fun _ _ h=>(jU.yN (n:=0) h).oW,jU.nb⟩
def jU.IM:jU.row.enc=jU.cells/\jU.row.dec=jU.of []/\jU.row.sz=3/\jU.ky.enc=jU.cells/\jU.ky.dec=jU.of:=⟨rfl,rfl,rfl,rfl,rfl⟩
def jU.eta(x:jU):jU.mk x.tokens x.next x.base=x:=by cases x;rfl
attribute [go_sem] jU.uk jU.IM jU.eta
def jU.prj:(∀(y0:List j8)(y1:Int)(y2:Int),(jU.mk y0 y1 y2).tokens=y0)/\(∀(y0:List j8)(y1:Int)(y2:Int),(jU.mk y0 y1 y2).next=y1)/\(∀(y0:List j8)(y1:Int)(y2:Int),(jU.mk y0 y1 y2).base=y2):=⟨fun _ _ _=>rfl,fun _ _ _=>rfl,fun _ _ _=>rfl⟩
attribute [go_sem] jU.prj
def jU.ZV:(∀(ρ:Nat->Nat)(x:jU),qu ρ x.cells=x.cells)/\ ∀(ρ:Nat->Nat)(xs:List jU),CP ρ (mp jU.cells xs)=mp jU.cells xs:=⟨fun ρ x=>qQ ρ _ (jU.nb 0 x),fun ρ xs=>tN ρ _ (pY (jU.nb 0) xs)⟩
def jU.reads:
 (∀x:jU,cellsOf (.agg x.cells)=some x.cells)/\
 (∀x:jU,lG true 3 x.cells=some (.agg x.cells))/\
 (∀x:jU,lG false 1 x.cells=some (.lI false 3 (mp j8.cells x.tokens)))/\
 (∀x:jU,lG false 1 (x.cells.drop 1)=some (.int .i64 x.next))/\
 (∀x:jU,lG false 1 (x.cells.drop 2)=some (.int .i64 x.base)):=
 ⟨fun x=>by simp only[cellsOf,jU.scalar,jD],
  fun x=>Af (jU.length x),
  fun x=>by rw[jU.cells_eq];rfl,
  fun x=>by rw[jU.cells_eq];rfl,
  fun x=>by rw[jU.cells_eq];rfl⟩
theorem jU.app(x:jU)(l:List AV):x.cells++l=(.lI false 3 (mp j8.cells x.tokens):AV)::(.int .i64 x.next:AV)::(.int .i64 x.base:AV)::l:=by rw[jU.cells_eq];rfl
attribute [go_sem] jU.app jU.ZV jU.reads jU.length jU.scalar
structure jG where
 q7:jU
 table:List jH
 ww:List Str
 depth:Int
def jG.cells(x:jG):List AV:=x.q7.cells++[.lI false 4 (mp jH.cells x.table),.lI false 1 (mp mA x.ww),.int .i64 x.depth]
theorem jG.nD(x:jG):x.cells=x.q7.cells++[.lI false 4 (mp jH.cells x.table),.lI false 1 (mp mA x.ww),.int .i64 x.depth]:=rfl
theorem jG.cells_eq(x:jG):x.cells=[.lI false 3 (mp j8.cells x.q7.tokens),.int .i64 x.q7.next,.int .i64 x.q7.base,.lI false 4 (mp jH.cells x.table),.lI false 1 (mp mA x.ww),.int .i64 x.depth]:=by
 simp only[jG.cells,jU.cells_eq,List.cons_append,List.nil_append,List.append_nil]
attribute [irreducible] jG.cells
theorem jG.length(x:jG):x.cells.length=6:=by rw[jG.cells_eq];rfl
def jG.scalar(x:jG):x.cells.all AV.scalar=true:=by rw[jG.cells_eq];rfl
theorem jG.nb(n:Nat)(x:jG):uB n x.cells:=by
 rw[jG.nD];exact(HC (jU.nb n x.q7) ⟨pY (jH.nb n) _,pY (TV n) _,trivial,trivial⟩)
def jG.of(H:List jS):List AV->Option jG
 |[c0,c1,c2,c3,c4,c5]=>(jU.of H [c0,c1,c2]).bind fun x0=>(dL jH.row H c3).bind fun x1=>(dL l6 H c4).bind fun x2=>(dI .i64 c5).bind fun x3=>some (.mk x0 x1 x2 x3)
 |_=>none
def jG.uk{c0 c1 c2 c3 c4 c5:AV}:jG.of H [c0,c1,c2,c3,c4,c5]=(jU.of H [c0,c1,c2]).bind fun x0=>(dL jH.row H c3).bind fun x1=>(dL l6 H c4).bind fun x2=>(dI .i64 c5).bind fun x3=>some (.mk x0 x1 x2 x3):=rfl
def jG.nR(H:List jS)(x:jG):jG.of H [.lI false 3 (mp j8.cells x.q7.tokens),.int .i64 x.q7.next,.int .i64 x.q7.base,.lI false 4 (mp jH.cells x.table),.lI false 1 (mp mA x.ww),.int .i64 x.depth]=some x:=by
 simp only[jG.uk,KN,FK,SZ,u3,FJ,beq_self_eq_true,eW,ju,dL,jH.ql,jH.row,EX,ZN,jU.nR]
 try (cases x;rfl)
theorem jG.pZ(H:List jS)(x:jG):jG.of H x.cells=some x:=by rw[jG.cells_eq];exact jG.nR H x
def jG.yN{x:jG}(h:jG.of H cs=some x):oe H n cs x.cells:=by
 unfold jG.of at h;split at h
 ·simp only[eT,eU] at h;obtain⟨x0,h0,x1,h1,x2,h2,x3,h3,rfl⟩:=h;rw[jG.nD];exact(oe.append (jU.yN h0) (oe.cons (Of h1) (oe.cons (Of h2) (oe.cons (C6 h3) oe.nil))))
 ·cases h
def jG.ky:SE jG:=⟨jG.cells,jG.of,fun _ _ _ _ h=>jG.yN h,jG.nb⟩
def jG.row:Row jG:=⟨jG.cells,jG.of [],6,fun _ _ h=>(jG.yN (n:=0) h).oW,jG.nb⟩
def jG.IM:jG.row.enc=jG.cells/\jG.row.dec=jG.of []/\jG.row.sz=6/\jG.ky.enc=jG.cells/\jG.ky.dec=jG.of:=⟨rfl,rfl,rfl,rfl,rfl⟩
attribute [go_sem] jG.uk jG.pZ jG.IM
def jG.prj:(∀(y0:jU)(y1:List jH)(y2:List Str)(y3:Int),(jG.mk y0 y1 y2 y3).q7=y0)/\(∀(y0:jU)(y1:List jH)(y2:List Str)(y3:Int),(jG.mk y0 y1 y2 y3).table=y1)/\(∀(y0:jU)(y1:List jH)(y2:List Str)(y3:Int),(jG.mk y0 y1 y2 y3).ww=y2)/\(∀(y0:jU)(y1:List jH)(y2:List Str)(y3:Int),(jG.mk y0 y1 y2 y3).depth=y3):=⟨fun _ _ _ _=>rfl,fun _ _ _ _=>rfl,fun _ _ _ _=>rfl,fun _ _ _ _=>rfl⟩
attribute [go_sem] jG.prj
def jG.nbs:(∀(n:Nat)(x:jG),Go.Abs.uB n x.cells=True)/\ ∀(n:Nat)(xs:List jG),Go.Abs.LK n (mp jG.cells xs)=True:=⟨fun n x=>eq_true (jG.nb n x),fun n xs=>eq_true (pY (jG.nb n) xs)⟩
def jG.ZV:(∀(ρ:Nat->Nat)(x:jG),qu ρ x.cells=x.cells)/\ ∀(ρ:Nat->Nat)(xs:List jG),CP ρ (mp jG.cells xs)=mp jG.cells xs:=⟨fun ρ x=>qQ ρ _ (jG.nb 0 x),fun ρ xs=>tN ρ _ (pY (jG.nb 0) xs)⟩
def jG.tk:(∀x:jG,List.take 6 x.cells=x.cells)/\ ∀x:jG,List.drop 6 x.cells=[]:=⟨fun x=>by rw[jG.cells_eq];rfl,fun x=>by rw[jG.cells_eq];rfl⟩
attribute [go_sem] jG.tk
def jG.reads:
 (∀x:jG,cellsOf (.agg x.cells)=some x.cells)/\
 (∀x:jG,lG true 6 x.cells=some (.agg x.cells))/\
 (∀x:jG,lG false 1 x.cells=some (.lI false 3 (mp j8.cells x.q7.tokens)))/\
 (∀x:jG,lG false 1 (x.cells.drop 1)=some (.int .i64 x.q7.next))/\
 (∀x:jG,lG false 1 (x.cells.drop 2)=some (.int .i64 x.q7.base))/\
 (∀x:jG,lG false 1 (x.cells.drop 3)=some (.lI false 4 (mp jH.cells x.table)))/\
 (∀x:jG,lG false 1 (x.cells.drop 4)=some (.lI false 1 (mp mA x.ww)))/\
 (∀x:jG,lG false 1 (x.cells.drop 5)=some (.int .i64 x.depth))/\
 (∀x:jG,lG true 3 x.cells=some (.agg x.q7.cells)):=
 ⟨fun x=>by simp only[cellsOf,jG.scalar,jD],
  fun x=>Af (jG.length x),
  fun x=>by rw[jG.cells_eq];rfl,
  fun x=>by rw[jG.cells_eq];rfl,
  fun x=>by rw[jG.cells_eq];rfl,
  fun x=>by rw[jG.cells_eq];rfl,
  fun x=>by rw[jG.cells_eq];rfl,
  fun x=>by rw[jG.cells_eq];rfl,
  fun x=>by rw[jG.cells_eq];simp only[jU.cells_eq,List.drop_succ_cons,List.drop_zero];rfl⟩
def jG.amm(x:jG)(o:Nat)(xs:List AV):tM x.cells o xs=tM [.lI false 3 (mp j8.cells x.q7.tokens),.int .i64 x.q7.next,.int .i64 x.q7.base,.lI false 4 (mp jH.cells x.table),.lI false 1 (mp mA x.ww),.int .i64 x.depth] o xs:=by rw[jG.cells_eq]
attribute [go_sem] jG.nbs jG.ZV jG.reads jG.length jG.scalar
attribute [go_sem low] jG.amm
structure jO where
 name:Str
 t:Syntax
def jO.cells(x:jO):List AV:=[.str (sb x.name)]++x.t.cells
theorem jO.nD(x:jO):x.cells=[.str (sb x.name)]++x.t.cells:=rfl
theorem jO.cells_eq(x:jO):x.cells=[.str (sb x.name),.int .i64 x.t.kind,.str (sb x.t.text),.int .i64 x.t.num,.lI false 1 (mp mA x.t.names),.lI false 2 (mp jM.cells x.t.levels),.lI false 8 (mp Syntax.cells x.t.kids),.int .i64 x.t.from_,.int .i64 x.t.to]:=by
 simp only[jO.cells,Syntax.cells_eq,List.cons_append,List.nil_append,List.append_nil]
attribute [irreducible] jO.cells
theorem jO.length(x:jO):x.cells.length=9:=by rw[jO.cells_eq];rfl
def jO.scalar(x:jO):x.cells.all AV.scalar=true:=by rw[jO.cells_eq];rfl
theorem jO.nb(n:Nat)(x:jO):uB n x.cells:=by
 rw[jO.nD];exact(HC ⟨trivial,trivial⟩ (Syntax.nb n x.t))
def jO.of(H:List jS):List AV->Option jO
 |[c0,c1,c2,c3,c4,c5,c6,c7,c8]=>(dS c0).bind fun x0=>(Syntax.of H [c1,c2,c3,c4,c5,c6,c7,c8]).bind fun x1=>some (.mk x0 x1)
 |_=>none
def jO.uk{c0 c1 c2 c3 c4 c5 c6 c7 c8:AV}:jO.of H [c0,c1,c2,c3,c4,c5,c6,c7,c8]=(dS c0).bind fun x0=>(Syntax.of H [c1,c2,c3,c4,c5,c6,c7,c8]).bind fun x1=>some (.mk x0 x1):=rfl
def jO.nR(H:List jS)(x:jO):jO.of H [.str (sb x.name),.int .i64 x.t.kind,.str (sb x.t.text),.int .i64 x.t.num,.lI false 1 (mp mA x.t.names),.lI false 2 (mp jM.cells x.t.levels),.lI false 8 (mp Syntax.cells x.t.kids),.int .i64 x.t.from_,.int .i64 x.t.to]=some x:=by
 simp only[jO.uk,KN,FK,SZ,u3,FJ,beq_self_eq_true,eW,ju,dL,Syntax.nR]
 try (cases x;rfl)
theorem jO.pZ(H:List jS)(x:jO):jO.of H x.cells=some x:=by rw[jO.cells_eq];exact jO.nR H x
def jO.yN{x:jO}(h:jO.of H cs=some x):oe H n cs x.cells:=by
 unfold jO.of at h;split at h
 ·simp only[eT,eU] at h;obtain⟨x0,h0,x1,h1,rfl⟩:=h;rw[jO.nD];exact(oe.append (oe.cons (Yi h0) oe.nil) (Syntax.yN h1))
 ·cases h
def jO.ky:SE jO:=⟨jO.cells,jO.of,fun _ _ _ _ h=>jO.yN h,jO.nb⟩
def jO.row:Row jO:=⟨jO.cells,jO.of [],9,fun _ _ h=>(jO.yN (n:=0) h).oW,jO.nb⟩
def jO.ql(xs:List jO):pN (jO.of []) (mp jO.cells xs)=some xs:=Ep (jO.pZ []) xs
def jO.IM:jO.row.enc=jO.cells/\jO.row.dec=jO.of []/\jO.row.sz=9/\jO.ky.enc=jO.cells/\jO.ky.dec=jO.of:=⟨rfl,rfl,rfl,rfl,rfl⟩
attribute [go_sem] jO.uk jO.pZ jO.ql jO.IM
def jO.prj:(∀(y0:Str)(y1:Syntax),(jO.mk y0 y1).name=y0)/\(∀(y0:Str)(y1:Syntax),(jO.mk y0 y1).t=y1):=⟨fun _ _=>rfl,fun _ _=>rfl⟩
attribute [go_sem] jO.prj
def jO.nbs:(∀(n:Nat)(x:jO),Go.Abs.uB n x.cells=True)/\ ∀(n:Nat)(xs:List jO),Go.Abs.LK n (mp jO.cells xs)=True:=⟨fun n x=>eq_true (jO.nb n x),fun n xs=>eq_true (pY (jO.nb n) xs)⟩
def jO.ZV:(∀(ρ:Nat->Nat)(x:jO),qu ρ x.cells=x.cells)/\ ∀(ρ:Nat->Nat)(xs:List jO),CP ρ (mp jO.cells xs)=mp jO.cells xs:=⟨fun ρ x=>qQ ρ _ (jO.nb 0 x),fun ρ xs=>tN ρ _ (pY (jO.nb 0) xs)⟩
def jO.reads:
 (∀x:jO,cellsOf (.agg x.cells)=some x.cells)/\
 (∀x:jO,lG true 9 x.cells=some (.agg x.cells))/\
 (∀x:jO,lG false 1 x.cells=some (.str (sb x.name)))/\
 (∀x:jO,lG false 1 (x.cells.drop 1)=some (.int .i64 x.t.kind))/\
 (∀x:jO,lG false 1 (x.cells.drop 2)=some (.str (sb x.t.text)))/\
 (∀x:jO,lG false 1 (x.cells.drop 3)=some (.int .i64 x.t.num))/\
 (∀x:jO,lG false 1 (x.cells.drop 4)=some (.lI false 1 (mp mA x.t.names)))/\
 (∀x:jO,lG false 1 (x.cells.drop 5)=some (.lI false 2 (mp jM.cells x.t.levels)))/\
 (∀x:jO,lG false 1 (x.cells.drop 6)=some (.lI false 8 (mp Syntax.cells x.t.kids)))/\
 (∀x:jO,lG false 1 (x.cells.drop 7)=some (.int .i64 x.t.from_))/\
 (∀x:jO,lG false 1 (x.cells.drop 8)=some (.int .i64 x.t.to))/\
 (∀x:jO,lG true 8 (x.cells.drop 1)=some (.agg x.t.cells)):=
 ⟨fun x=>by simp only[cellsOf,jO.scalar,jD],
  fun x=>Af (jO.length x),
  fun x=>by rw[jO.cells_eq];rfl,
  fun x=>by rw[jO.cells_eq];rfl,
  fun x=>by rw[jO.cells_eq];rfl,
  fun x=>by rw[jO.cells_eq];rfl,
  fun x=>by rw[jO.cells_eq];rfl,
  fun x=>by rw[jO.cells_eq];rfl,
  fun x=>by rw[jO.cells_eq];rfl,
  fun x=>by rw[jO.cells_eq];rfl,
  fun x=>by rw[jO.cells_eq];rfl,
  fun x=>by rw[jO.cells_eq];simp only[Syntax.cells_eq,List.drop_succ_cons,List.drop_zero];rfl⟩
attribute [go_sem] jO.nbs jO.ZV jO.reads jO.length jO.scalar
open Go.Proofs
def tf0:
 oF eS 1=some (false,1)/\
 nu eS 1=none/\
 n4 eS 1=some [.raw .nilFunc]/\
 tj eS 1=false/\
 nM eS 1=true/\
 p7 eS 1=true/\
 oF eS 3=some (false,1)/\
 nu eS 3=none/\
 n4 eS 3=some [.int .i64 0]/\
 tj eS 3=false/\
 af1 eS 3=some .i64/\
 nM eS 3=false/\
 p7 eS 3=true/\
 oF eS 4=some (false,1)/\
 nu eS 4=none/\
 n4 eS 4=some [.bool false]/\
 tj eS 4=false/\
 nM eS 4=true/\
 p7 eS 4=true/\
 oF eS 5=some (false,1)/\
 nu eS 5=none/\
 n4 eS 5=some [.int .u8 0]/\
 tj eS 5=false/\
 af1 eS 5=some .u8/\
 nM eS 5=false/\
 p7 eS 5=true/\
 oF eS 9=some (false,1)/\
 nu eS 9=none/\
 n4 eS 9=some [.str eV]/\
 tj eS 9=true/\
 af1 eS 9=none/\
 nM eS 9=true/\
 p7 eS 9=true/\
 oF eS 20=some (false,1)/\
 nu eS 20=none/\
 n4 eS 20=some [.raw .nilIface]/\
 tj eS 20=false/\
 nM eS 20=true/\
 p7 eS 20=false/\
 oF eS 21=some (false,1)/\
 nu eS 21=none/\
 n4 eS 21=some [.int .i32 0]/\
 tj eS 21=false/\
 af1 eS 21=some .i32/\
 nM eS 21=false/\
 p7 eS 21=true/\
 oF eS 22=some (false,1)/\
 nu eS 22=some (53,4,56)/\
 n4 eS 22=some [.lI true 0 []]/\
 tj eS 22=false/\
 nM eS 22=true/\
 p7 eS 22=true/\
 oF eS 25=some (false,1)/\
 nu eS 25=some (9,1,16)/\
 n4 eS 25=some [.lI true 0 []]/\
 tj eS 25=false/\
 nM eS 25=true/\
 p7 eS 25=true/\
 oF eS 26=some (false,1)/\
 nu eS 26=some (80,2,32)/\
 n4 eS 26=some [.lI true 0 []]/\
 tj eS 26=false/\
 nM eS 26=true/\
 p7 eS 26=true/\
 oF eS 27=some (false,1)/\
 nu eS 27=some (29,8,120)/\
 n4 eS 27=some [.lI true 0 []]/\
 tj eS 27=false/\
 nM eS 27=true/\
 p7 eS 27=true/\
 oF eS 29=some (true,8)/\
 Ab eS 29=true/\
 vU eS 29 0=some (0,3)/\
 mO eS 29 0=some (0,1)/\
 vU eS 29 1=some (1,9)/\
 mO eS 29 1=some (1,1)/\
 vU eS 29 2=some (2,3)/\
 mO eS 29 2=some (2,1)/\
 vU eS 29 3=some (3,25)/\
 mO eS 29 3=some (3,1)/\
 vU eS 29 4=some (4,26)/\
 mO eS 29 4=some (4,1)/\
 vU eS 29 5=some (5,27)/\
 mO eS 29 5=some (5,1)/\
 vU eS 29 6=some (6,3)/\
 mO eS 29 6=some (6,1)/\
 vU eS 29 7=some (7,3)/\
 mO eS 29 7=some (7,1)/\
 nu eS 29=none/\
 n4 eS 29=some [.int .i64 0,.str eV,.int .i64 0,.lI true 0 [],.lI true 0 [],.lI true 0 [],.int .i64 0,.int .i64 0]/\
 tj eS 29=false/\
 nM eS 29=true/\
 p7 eS 29=true/\
 oF eS 30=some (false,1)/\
 nu eS 30=none/\
 n4 eS 30=some [.int .i64 0]/\
 tj eS 30=false/\
 af1 eS 30=some .i64/\
 nM eS 30=false/\
 p7 eS 30=true/\
 oF eS 39=some (false,1)/\
 nu eS 39=none/\
 n4 eS 39=some [.raw .nilFunc]/\
 tj eS 39=false/\
 nM eS 39=true/\
 p7 eS 39=true/\
 oF eS 40=some (false,1)/\
 nu eS 40=some (45,3,32)/\
 n4 eS 40=some [.lI true 0 []]/\
 tj eS 40=false/\
 nM eS 40=true/\
 p7 eS 40=true/\
 oF eS 45=some (true,3)/\
 Ab eS 45=true/\
 vU eS 45 0=some (0,3)/\
 mO eS 45 0=some (0,1)/\
 vU eS 45 1=some (1,9)/\
 mO eS 45 1=some (1,1)/\
 vU eS 45 2=some (2,3)/\
 mO eS 45 2=some (2,1):=
 ⟨jE,jE,jE,jE,jE,jE,jE,jE,jE,jE,jE,jE,jE,jE,jE,jE,jE,jE,jE,jE,jE,jE,jE,jE,jE,jE,jE,jE,jE,jE,jE,jE,jE,jE,jE,jE,jE,jE,jE,jE,jE,jE,jE,jE,jE,jE,jE,jE,jE,jE,jE,jE,jE,jE,jE,jE,jE,jE,jE,jE,jE,jE,jE,jE,jE,jE,jE,jE,jE,jE,jE,jE,jE,jE,jE,jE,jE,jE,jE,jE,jE,jE,jE,jE,jE,jE,jE,jE,jE,jE,jE,jE,jE,jE,jE,jE,jE,jE,jE,jE,jE,jE,jE,jE,jE,jE,jE,jE,jE,jE,jE,jE,jE,jE,jE,jE,jE,jE,jE,jE⟩
def tf1:
 nu eS 45=none/\
 n4 eS 45=some [.int .i64 0,.str eV,.int .i64 0]/\
 tj eS 45=false/\
 nM eS 45=true/\
 p7 eS 45=true/\
 oF eS 53=some (true,4)/\
 Ab eS 53=true/\
 vU eS 53 0=some (0,25)/\
 mO eS 53 0=some (0,1)/\
 vU eS 53 1=some (1,3)/\
 mO eS 53 1=some (1,1)/\
 vU eS 53 2=some (2,3)/\
 mO eS 53 2=some (2,1)/\
 vU eS 53 3=some (3,9)/\
 mO eS 53 3=some (3,1)/\
 nu eS 53=none/\
 n4 eS 53=some [.lI true 0 [],.int .i64 0,.int .i64 0,.str eV]/\
 tj eS 53=false/\
 nM eS 53=true/\
 p7 eS 53=true/\
 oF eS 66=some (true,2)/\
 Ab eS 66=true/\
 vU eS 66 0=some (0,30)/\
 mO eS 66 0=some (0,1)/\
 vU eS 66 1=some (1,3)/\
 mO eS 66 1=some (1,1)/\
 nu eS 66=none/\
 n4 eS 66=some [.int .i64 0,.int .i64 0]/\
 tj eS 66=false/\
 nM eS 66=true/\
 p7 eS 66=true/\
 oF eS 68=some (false,1)/\
 nu eS 68=none/\
 n4 eS 68=some [.raw (.pointer none)]/\
 tj eS 68=false/\
 nM eS 68=true/\
 p7 eS 68=true/\
 oF eS 78=some (false,1)/\
 nu eS 78=some (82,2,24)/\
 n4 eS 78=some [.lI true 0 []]/\
 tj eS 78=false/\
 nM eS 78=true/\
 p7 eS 78=true/\
 oF eS 80=some (true,2)/\
 Ab eS 80=true/\
 vU eS 80 0=some (0,4)/\
 mO eS 80 0=some (0,1)/\
 vU eS 80 1=some (1,78)/\
 mO eS 80 1=some (1,1)/\
 nu eS 80=none/\
 n4 eS 80=some [.bool false,.lI true 0 []]/\
 tj eS 80=false/\
 nM eS 80=true/\
 p7 eS 80=true/\
 oF eS 82=some (true,2)/\
 Ab eS 82=true/\
 vU eS 82 0=some (0,9)/\
 mO eS 82 0=some (0,1)/\
 vU eS 82 1=some (1,3)/\
 mO eS 82 1=some (1,1)/\
 nu eS 82=none/\
 n4 eS 82=some [.str eV,.int .i64 0]/\
 tj eS 82=false/\
 nM eS 82=true/\
 p7 eS 82=true/\
 oF eS 84=some (false,1)/\
 nu eS 84=none/\
 n4 eS 84=some [.raw .nilFunc]/\
 tj eS 84=false/\
 nM eS 84=true/\
 p7 eS 84=true/\
 oF eS 100=some (true,3)/\
 Ab eS 100=true/\
 vU eS 100 0=some (0,40)/\
 mO eS 100 0=some (0,1)/\
 vU eS 100 1=some (1,3)/\
 mO eS 100 1=some (1,1)/\
 vU eS 100 2=some (2,3)/\
 mO eS 100 2=some (2,1)/\
 nu eS 100=none/\
 n4 eS 100=some [.lI true 0 [],.int .i64 0,.int .i64 0]/\
 tj eS 100=false/\
 nM eS 100=true/\
 p7 eS 100=true/\
 oF eS 102=some (true,6)/\
 Ab eS 102=true/\
 vU eS 102 0=some (0,100)/\
 mO eS 102 0=some (0,3)/\
 vU eS 102 1=some (3,22)/\
 mO eS 102 1=some (3,1)/\
 vU eS 102 2=some (4,25)/\
 mO eS 102 2=some (4,1)/\
 vU eS 102 3=some (5,3)/\
 mO eS 102 3=some (5,1)/\
 nu eS 102=none/\
 n4 eS 102=some [.lI true 0 [],.int .i64 0,.int .i64 0,.lI true 0 [],.lI true 0 [],.int .i64 0]/\
 tj eS 102=false/\
 nM eS 102=true/\
 p7 eS 102=true/\
 oF eS 119=some (false,1)/\
 nu eS 119=some (148,9,136)/\
 n4 eS 119=some [.lI true 0 []]/\
 tj eS 119=false/\
 nM eS 119=true/\
 p7 eS 119=true/\
 oF eS 127=some (false,1)/\
 nu eS 127=none/\
 n4 eS 127=some [.raw (.pointer none)]/\
 tj eS 127=false/\
 nM eS 127=true/\
 p7 eS 127=true/\
 oF eS 144=some (false,1)/\
 nu eS 144=none/\
 n4 eS 144=some [.raw (.map none)]/\
 SF eS 144=some (.bool false)/\
 tj eS 144=false/\
 nM eS 144=true/\
 p7 eS 144=true/\
 oF eS 148=some (true,9)/\
 Ab eS 148=true:=
 ⟨jE,jE,jE,jE,jE,jE,jE,jE,jE,jE,jE,jE,jE,jE,jE,jE,jE,jE,jE,jE,jE,jE,jE,jE,jE,jE,jE,jE,jE,jE,jE,jE,jE,jE,jE,jE,jE,jE,jE,jE,jE,jE,jE,jE,jE,jE,jE,jE,jE,jE,jE,jE,jE,jE,jE,jE,jE,jE,jE,jE,jE,jE,jE,jE,jE,jE,jE,jE,jE,jE,jE,jE,jE,jE,jE,jE,jE,jE,jE,jE,jE,jE,jE,jE,jE,jE,jE,jE,jE,jE,jE,jE,jE,jE,jE,jE,jE,jE,jE,jE,jE,jE,jE,jE,jE,jE,jE,jE,jE,jE,jE,jE,jE,jE,jE,jE,jE,jE,jE,jE⟩
def tf2:
 vU eS 148 0=some (0,9)/\
 mO eS 148 0=some (0,1)/\
 vU eS 148 1=some (1,29)/\
 mO eS 148 1=some (1,8)/\
 nu eS 148=none/\
 n4 eS 148=some [.str eV,.int .i64 0,.str eV,.int .i64 0,.lI true 0 [],.lI true 0 [],.lI true 0 [],.int .i64 0,.int .i64 0]/\
 tj eS 148=false/\
 nM eS 148=true/\
 p7 eS 148=true/\
 oF eS 161=some (false,1)/\
 nu eS 161=none/\
 n4 eS 161=some [.raw (.pointer none)]/\
 tj eS 161=false/\
 nM eS 161=true/\
 p7 eS 161=true/\
 oF eS 164=some (true,5)/\
 Ab eS 164=true/\
 vU eS 164 0=some (0,9)/\
 mO eS 164 0=some (0,1)/\
 vU eS 164 1=some (1,3)/\
 mO eS 164 1=some (1,1)/\
 vU eS 164 2=some (2,144)/\
 mO eS 164 2=some (2,1)/\
 vU eS 164 3=some (3,144)/\
 mO eS 164 3=some (3,1)/\
 vU eS 164 4=some (4,144)/\
 mO eS 164 4=some (4,1)/\
 nu eS 164=none/\
 n4 eS 164=some [.str eV,.int .i64 0,.raw (.map none),.raw (.map none),.raw (.map none)]/\
 tj eS 164=false/\
 nM eS 164=true/\
 p7 eS 164=true/\
 oF eS 165=some (false,1)/\
 nu eS 165=some (25,1,24)/\
 n4 eS 165=some [.lI true 0 []]/\
 tj eS 165=false/\
 nM eS 165=true/\
 p7 eS 165=true/\
 oF eS 166=some (false,1)/\
 nu eS 166=none/\
 n4 eS 166=some [.raw .nilFunc]/\
 tj eS 166=false/\
 nM eS 166=true/\
 p7 eS 166=true/\
 oF eS 167=some (true,4)/\
 ahG eS 167=some (4,1)/\
 Ab eS 167=true/\
 mO eS 167 0=some (0,1)/\
 mO eS 167 1=some (1,1)/\
 mO eS 167 2=some (2,1)/\
 mO eS 167 3=some (3,1)/\
 nu eS 167=none/\
 n4 eS 167=some [.raw .nilFunc,.raw .nilFunc,.raw .nilFunc,.raw .nilFunc]/\
 tj eS 167=false/\
 nM eS 167=true/\
 p7 eS 167=true/\
 oF eS 195=some (false,1)/\
 nu eS 195=none/\
 n4 eS 195=some [.raw (.pointer none)]/\
 tj eS 195=false/\
 nM eS 195=true/\
 p7 eS 195=true/\
 oF eS 198=some (false,1)/\
 nu eS 198=none/\
 n4 eS 198=some [.raw (.pointer none)]/\
 tj eS 198=false/\
 nM eS 198=true/\
 p7 eS 198=true/\
 oF eS 200=some (true,3)/\
 Ab eS 200=true/\
 vU eS 200 0=some (0,195)/\
 mO eS 200 0=some (0,1)/\
 vU eS 200 1=some (1,27)/\
 mO eS 200 1=some (1,1)/\
 vU eS 200 2=some (2,3)/\
 mO eS 200 2=some (2,1)/\
 nu eS 200=none/\
 n4 eS 200=some [.raw (.pointer none),.lI true 0 [],.int .i64 0]/\
 tj eS 200=false/\
 nM eS 200=true/\
 p7 eS 200=true/\
 oF eS 202=some (true,0)/\
 Ab eS 202=true/\
 nu eS 202=none/\
 n4 eS 202=some []/\
 tj eS 202=false/\
 nM eS 202=true/\
 p7 eS 202=true/\
 oF eS 212=some (true,256)/\
 ahG eS 212=some (256,1)/\
 Ab eS 212=true/\
 nu eS 212=none/\
 tj eS 212=false/\
 nM eS 212=true/\
 p7 eS 212=true/\
 oF eS 215=some (false,1)/\
 nu eS 215=none/\
 n4 eS 215=some [.raw .nilFunc]/\
 tj eS 215=false/\
 nM eS 215=true/\
 p7 eS 215=true/\
 oF eS 220=some (true,256)/\
 ahG eS 220=some (256,1)/\
 Ab eS 220=true/\
 nu eS 220=none/\
 tj eS 220=false/\
 nM eS 220=true/\
 p7 eS 220=true/\
 oF eS 229=some (false,1)/\
 nu eS 229=none/\
 n4 eS 229=some [.raw (.map none)]/\
 SF eS 229=some (.agg [.lI true 0 [],.int .i64 0,.int .i64 0,.str eV])/\
 tj eS 229=false/\
 nM eS 229=true/\
 p7 eS 229=true/\
 oF eS 231=some (true,4)/\
 Ab eS 231=true/\
 vU eS 231 0=some (0,229)/\
 mO eS 231 0=some (0,1)/\
 vU eS 231 1=some (1,229):=
 ⟨jE,jE,jE,jE,jE,jE,jE,jE,jE,jE,jE,jE,jE,jE,jE,jE,jE,jE,jE,jE,jE,jE,jE,jE,jE,jE,jE,jE,jE,jE,jE,jE,jE,jE,jE,jE,jE,jE,jE,jE,jE,jE,jE,jE,jE,jE,jE,jE,jE,jE,jE,jE,jE,jE,jE,jE,jE,jE,jE,jE,jE,jE,jE,jE,jE,jE,jE,jE,jE,jE,jE,jE,jE,jE,jE,jE,jE,jE,jE,jE,jE,jE,jE,jE,jE,jE,jE,jE,jE,jE,jE,jE,jE,jE,jE,jE,jE,jE,jE,jE,jE,jE,jE,jE,jE,jE,jE,jE,jE,jE,jE,jE,jE,jE,jE,jE,jE,jE,jE,jE⟩
def tf3:
 mO eS 231 1=some (1,1)/\
 vU eS 231 2=some (2,144)/\
 mO eS 231 2=some (2,1)/\
 vU eS 231 3=some (3,3)/\
 mO eS 231 3=some (3,1)/\
 nu eS 231=none/\
 n4 eS 231=some [.raw (.map none),.raw (.map none),.raw (.map none),.int .i64 0]/\
 tj eS 231=false/\
 nM eS 231=true/\
 p7 eS 231=true/\
 oF eS 279=some (false,1)/\
 nu eS 279=none/\
 n4 eS 279=some [.raw (.pointer none)]/\
 tj eS 279=false/\
 nM eS 279=true/\
 p7 eS 279=true/\
 tbl eS 4=true/\
 aky eS 20=true:=
 ⟨jE,jE,jE,jE,jE,jE,jE,jE,jE,jE,jE,jE,jE,jE,jE,jE,jE,jE⟩
def mixed:Tryz.prog.follows .mixedOrders=true:=jE
attribute [go_sem] tf0 tf1 tf2 tf3
open Go.Proofs
set_option maxRecDepth 100000
def jP.ayV(a b:jP):ae0 eS 82 a.cells b.cells=True:=by
 refine eq_true (alV (jE) (jE) (jE) ?_);rw[jP.cells_eq,jP.cells_eq];exact⟨⟨by decide,jE,jE,by dsimp only;kernel_rfl⟩,⟨by decide,jE,jE,rfl,.i64,jE⟩,trivial⟩
def jP.eqB(a b:jP):Go.Abs.eqB a.cells b.cells=((a.name==b.name)&&(a.plus==b.plus)):=by
 rw[jP.cells_eq,jP.cells_eq];simp only[Go.Abs.eqB,eq1,Oj,Bool.and_true]
attribute [go_sem] jP.ayV jP.eqB
def j8.sc(x:j8):x.cells.map sc1=x.cells:=by
 rw[j8.cells_eq];rfl
attribute [go_sem] j8.sc
def jH.ayW: ∀x y:jH,((lF jH.ky)).enc x=((lF jH.ky)).enc y->x=y:=fun x y h=>by
 have h2:jH.cells x=jH.cells y:=AV.agg.inj h;have h3:jH.of [] x.cells=jH.of [] y.cells:=by rw[h2]
 rw[jH.pZ,jH.pZ] at h3;exact Option.some.inj h3
def jH.aAh:(∀xs,Xu (lF jH.ky) (.map (mp (JR (lF jH.ky)) xs))=some xs)/\Xu (lF jH.ky) (.map [])=some []/\Xu (lF jH.ky) (.map (mp CM []))=some []:=aq8 jH.ayW
def jH.ayX(l:Nat)(s:Str)(v:jH)(xs:List (Str×jH)):yG l (sb s) (.agg v.cells) (some (.map (mp (JR (lF jH.ky)) xs)))=some {val:= .any,rd:=[l],up:=[(l,.map (mp (JR (lF jH.ky)) (w7 s v xs)))]}:=by
 have:=aua (t:=(lF jH.ky)) (l:=l) (s:=s) (v:=v) (xs:=xs)
 rwa [show((lF jH.ky)).enc v= .agg v.cells from rfl] at this
attribute [go_sem] jH.aAh jH.ayX
abbrev Td:Type:=(jG×Unit)
abbrev T6:Type:=(Td×Unit)
abbrev Tb:Type:=(List (Str×jH))
abbrev T9:Type:=(List (Str×Bool))
abbrev Tf:Type:=((Int×Unit)×(Tb×(Tb×(T9×Unit))))
abbrev T7:Type:=(((List Syntax)×(Int×Unit))×Tf)
abbrev Tc:Type:=(jT×Unit)
abbrev T8:Type:=(PR (T6×(Syntax×Unit)) (T6×Tc))
abbrev Ta:Type:=(PR ((Td×((Syntax×Unit)×Unit))×Unit) ((Td×((Syntax×Unit)×Unit))×Tc))
abbrev Te:Type:=(PR ((Td×(Unit×(Unit×((List jP)×Unit))))×Unit) ((Td×(Unit×(Unit×((List jP)×Unit))))×Tc))
abbrev Tw:Type:=((Str×(Int×Unit))×(T9×(T9×(T9×Unit))))
abbrev Tg:Type:=(Tw×(Int×(Int×(Int×Unit))))
abbrev Th:Type:=(PR (T7×(Syntax×(Int×Unit))) (T7×(Unit×Unit)))
abbrev Ti:Type:=(List jM)
abbrev Tj:Type:=(Unit×((Syntax×Unit)×((Int×Unit)×((Int×Unit)×T7))))
abbrev Tk:Type:=(PR ((Unit×(Unit×((List jP)×T6)))×Unit) ((Unit×(Unit×((List jP)×T6)))×Tc))
abbrev Tl:Type:=((Syntax×Unit)×((Int×Unit)×((Int×Unit)×Unit)))
abbrev Tm:Type:=(List jO)
abbrev Tn:Type:=(PR (T7×(Syntax×Unit)) (T7×(Unit×Unit)))
abbrev To:Type:=((List Str)×Unit)
abbrev Tp:Type:=((Unit×Int)×((Syntax×Unit)×((Syntax×Unit)×Unit)))
abbrev Tq:Type:=(PR (T6×((List jP)×Unit)) (T6×Tc))
abbrev Ts:Type:=(PR (T6×Unit) (T6×Tc))
abbrev TD:Type:=((List Syntax)×Unit)
abbrev Tt:Type:=(PR (T6×TD) (T6×Tc))
abbrev Tu:Type:=(PR ((Td×(Unit×(Unit×(Ti×Unit))))×Unit) ((Td×(Unit×(Unit×(Ti×Unit))))×Tc))
abbrev Tv:Type:=(PR (T6×(Tm×Unit)) (T6×Tc))
abbrev Tx:Type:=((List j8)×Int×Int)
abbrev Tz:Type:=((Unit×Int)×(Unit×(T9×Unit)))
abbrev TK:Type:=(T6×(Str×Unit))
abbrev TA:Type:=(PR TK (T6×Tc))
abbrev TB:Type:=(PR (T6×(jM×Unit)) (T6×Tc))
abbrev TC:Type:=(PR ((Unit×(Unit×(Ti×T6)))×Unit) ((Unit×(Unit×(Ti×T6)))×Tc))
abbrev TE:Type:=(PR (T6×To) (T6×Tc))
abbrev TF:Type:=(PR (Unit×(jU×Unit)) (Unit×Tc))
abbrev TG:Type:=((Unit×T6)×Unit)
abbrev TH:Type:=(Syntax×Int×Int)
abbrev TI:Type:=(PR (Unit×Unit) (Tf×Unit))
abbrev TJ:Type:=(PR (Tf×(Str×To)) (Tf×(Str×To)))
abbrev TL:Type:=(Tf×(Int×Unit))
abbrev TM:Type:=(PR (T6×(Int×Unit)) (T6×Tc))
abbrev TN:Type:=(PR (T6×(Ti×Unit)) (T6×Tc))
abbrev TO:Type:=((Ti×Unit)×Unit)
abbrev TP:Type:=(T7×(Str×(Bool×Unit)))
abbrev TQ:Type:=(Unit×((Syntax×Unit)×((Syntax×Unit)×Unit)))
abbrev TR:Type:=(PR (T6×Unit) (Unit×Tc))
abbrev TS:Type:=(jH×(Int×((List Syntax)×(Int×Unit))))
end Go.Abs
