/- A part of the proof: the data of the program. -/
import Derived.Test.YtdkeelhebopgkaaGreatDoorCoreC
import Derived.Test.YtdkeelhebopgkaaGreatDoorProg
import Derived.KernelRfl
import Derived.Test.YtdkeelhebopgkaaGreatDoorCoreD
set_option linter.all false
open Go.Proofs.Tryz renaming prog → eT
open Option renaming bind_eq_some_iff → eU
open Option.some renaming injEq → eV
open ByteArray renaming empty → eW
open Bool renaming true_or → eX
namespace Go.Abs
variable {cs:List AV}{H:List kq}{n:Nat}{β:Type}
set_option maxRecDepth 10000
def alb(n:Nat)(x:Int):vK n (Vf x):=⟨trivial,trivial⟩
def atr(n:Nat)(x:Int):vK n (aem x):=⟨trivial,trivial⟩
def Vm(n:Nat)(x:Str):vK n (nB x):=⟨trivial,trivial⟩
def alc(n:Nat)(x:Bool):vK n (Z8 x):=⟨trivial,trivial⟩
def qD{α:Type}{f:α->List AV}{n:Nat}(h: ∀x,vK n (f x)): ∀xs:List α,MU n (mp f xs)
 |[]=>by rw[rH];trivial
 |x::xs=>by have:=qD h xs;rw[rH] at this ⊢;exact⟨h x,this⟩
def A7(h:cs.length=n):l9 true n cs=some (.agg cs):=by
 simp only[l9,<-h,Nat.le_refl,jU,List.take_length]
def att:(∀(n:Nat)(xs:List Int),MU n (mp Vf xs)=True)/\(∀(n:Nat)(xs:List Int),MU n (mp aem xs)=True)/\(∀(n:Nat)(xs:List Str),MU n (mp nB xs)=True)/\ ∀(n:Nat)(xs:List Bool),MU n (mp Z8 xs)=True:=⟨fun n xs=>eq_true (qD (alb n) xs),fun n xs=>eq_true (qD (atr n) xs),fun n xs=>eq_true (qD (Vm n) xs),fun n xs=>eq_true (qD (alc n) xs)⟩
def aqQ:(∀(ρ:Nat->Nat)(xs:List Int),DI ρ (mp Vf xs)=mp Vf xs)/\(∀(ρ:Nat->Nat)(xs:List Str),DI ρ (mp nB xs)=mp nB xs)/\ ∀(ρ:Nat->Nat)(xs:List Bool),DI ρ (mp Z8 xs)=mp Z8 xs:=⟨fun ρ xs=>uQ ρ _ (qD (alb 0) xs),fun ρ xs=>uQ ρ _ (qD (Vm 0) xs),fun ρ xs=>uQ ρ _ (qD (alc 0) xs)⟩
attribute [go_sem] Vf nB Z8 aem att aqQ
def GP {α:Type}{f:β->Option α}{g:α->β}(h: ∀x,f (g x)=some x): ∀(xs:List α)(i:Nat)(r:β),ql f ((mp g xs).set i r)=bif decide (i<xs.length) then(f r).bind fun y=>some (xs.set i y) else some xs:=by
 intro xs;rw[rH];induction xs with
 |nil=>intro i r;simp [ql]
 |cons x xs ih=>
  intro i r;cases i with
  |zero=>
   simp only[List.map_cons,List.set_cons_zero,ql,ael h,List.length_cons,Nat.zero_lt_succ,decide_true,jM];cases f r<;>rfl
  |succ i=>
   simp only[List.map_cons,List.set_cons_succ,ql,h,ih i r,List.length_cons,Nat.succ_lt_succ_iff,Option.bind_some];by_cases hi:i<xs.length
   ·simp only[hi,decide_true,jM];cases f r<;>rfl
   ·simp only[hi,decide_false,jN];rfl
def aqR:(∀(xs:List Int)(i:Nat)(r:List AV),ql (dI1 .i64) ((mp Vf xs).set i r)=bif decide (i<xs.length) then(dI1 .i64 r).bind fun y=>some (xs.set i y) else some xs)/\(∀(xs:List Bool)(i:Nat)(r:List AV),ql dB1 ((mp Z8 xs).set i r)=bif decide (i<xs.length) then(dB1 r).bind fun y=>some (xs.set i y) else some xs)/\(∀(xs:List Str)(i:Nat)(r:List AV),ql dS1 ((mp nB xs).set i r)=bif decide (i<xs.length) then(dS1 r).bind fun y=>some (xs.set i y) else some xs):=⟨GP fun x=>by simp [dI1,Vf,dI],GP fun x=>rfl,GP fun x=>rfl⟩
attribute [go_sem] aqR
def ahc{α β:Type}{f:β->Option α}{z:β}: ∀n:Nat,ql f (List.replicate n z)=bif n==0 then some [] else(f z).bind fun y=>some (List.replicate n y)
 |0=>rfl
 |n+1=>by
  simp only[List.replicate_succ,ql,ahc n];cases f z with
  |none=>rfl
  |some y=>cases n<;>rfl
attribute [go_sem] ahc
def azx{t:Bool}{z k:Nat}{r uY:List (List AV)}{o:Option β}{x:β}(hok:o=some x->Q4 r uY)(h:(bif GK z k r then o else none)=some x):Sub (.mb t z r) (.mb false k uY):=by
 cases hs:GK z k r with
 |false=>simp [hs] at h
 |true=>rw[hs] at h;exact Rc hs (hok h)
structure kf where
 name:Str
 plus:Int
def kf.cells(x:kf):List AV:=[.str (sb x.name),.int .i64 x.plus]
theorem kf.nA(x:kf):x.cells=[.str (sb x.name),.int .i64 x.plus]:=rfl
theorem kf.cells_eq(x:kf):x.cells=[.str (sb x.name),.int .i64 x.plus]:=rfl
attribute [irreducible] kf.cells
theorem kf.length(x:kf):x.cells.length=2:=by rw[kf.cells_eq];rfl
def kf.scalar(x:kf):x.cells.all AV.scalar=true:=by rw[kf.cells_eq];rfl
theorem kf.nb(n:Nat)(x:kf):vK n x.cells:=by
 rw[kf.nA];exact⟨trivial,trivial,trivial⟩
def kf.of(H:List kq):List AV->Option kf
 |[c0,c1]=>(dS c0).bind fun x0=>(dI .i64 c1).bind fun x1=>some (.mk x0 x1)
 |_=>none
def kf.vl{c0 c1:AV}:kf.of H [c0,c1]=(dS c0).bind fun x0=>(dI .i64 c1).bind fun x1=>some (.mk x0 x1):=rfl
def kf.oQ(H:List kq)(x:kf):kf.of H [.str (sb x.name),.int .i64 x.plus]=some x:=by
 simp only[kf.vl,LR,GL,Ve,wo,GK,beq_self_eq_true,eX,jM,dL]
 try (cases x;rfl)
theorem kf.qE(H:List kq)(x:kf):kf.of H x.cells=some x:=by rw[kf.cells_eq];exact kf.oQ H x
def kf.Ak{x:kf}(h:kf.of H cs=some x):pE H n cs x.cells:=by
 unfold kf.of at h;split at h
 ·simp only[eU,eV] at h;obtain⟨x0,h0,x1,h1,rfl⟩:=h;rw[kf.nA];exact(pE.cons (Z7 h0) (pE.cons (DY h1) pE.nil))
 ·cases h
def kf.kH:UV kf:=⟨kf.cells,kf.of,fun _ _ _ _ h=>kf.Ak h,kf.nb⟩
def kf.row:Row kf:=⟨kf.cells,kf.of [],2,fun _ _ h=>(kf.Ak (n:=0) h).pN,kf.nb⟩
def kf.qV(xs:List kf):ql (kf.of []) (mp kf.cells xs)=some xs:=Fe (kf.qE []) xs
def kf.GP(xs:List kf)(i:Nat)(r:List AV):ql (kf.of []) ((mp kf.cells xs).set i r)=bif decide (i<xs.length) then(kf.of [] r).bind fun y=>some (xs.set i y) else some xs:=Go.Abs.GP (kf.qE []) xs i r
attribute [go_sem low] kf.GP
def kf.JH:kf.row.enc=kf.cells/\kf.row.dec=kf.of []/\kf.row.sz=2/\kf.kH.enc=kf.cells/\kf.kH.dec=kf.of:=⟨rfl,rfl,rfl,rfl,rfl⟩
attribute [go_sem] kf.vl kf.qE kf.qV kf.JH
def kf.ww:(∀(y0:Str)(y1:Int),(kf.mk y0 y1).name=y0)/\(∀(y0:Str)(y1:Int),(kf.mk y0 y1).plus=y1):=⟨fun _ _=>rfl,fun _ _=>rfl⟩
attribute [go_sem] kf.ww
def kf.nbs:(∀(n:Nat)(x:kf),Go.Abs.vK n x.cells=True)/\ ∀(n:Nat)(xs:List kf),Go.Abs.MU n (mp kf.cells xs)=True:=⟨fun n x=>eq_true (kf.nb n x),fun n xs=>eq_true (qD (kf.nb n) xs)⟩
def kf.abx:(∀(ρ:Nat->Nat)(x:kf),qQ ρ x.cells=x.cells)/\ ∀(ρ:Nat->Nat)(xs:List kf),DI ρ (mp kf.cells xs)=mp kf.cells xs:=⟨fun ρ x=>rR ρ _ (kf.nb 0 x),fun ρ xs=>uQ ρ _ (qD (kf.nb 0) xs)⟩
def kf.reads:
 (∀x:kf,cellsOf (.agg x.cells)=some x.cells)/\
 (∀x:kf,l9 true 2 x.cells=some (.agg x.cells))/\
 (∀x:kf,l9 false 1 x.cells=some (.str (sb x.name)))/\
 (∀x:kf,l9 false 1 (x.cells.drop 1)=some (.int .i64 x.plus)):=
 ⟨fun x=>by simp only[cellsOf,kf.scalar,jU],
  fun x=>A7 (kf.length x),
  fun x=>by rw[kf.cells_eq];rfl,
  fun x=>by rw[kf.cells_eq];rfl⟩
def kf.an8(x:kf)(o:Nat)(xs:List AV):uP x.cells o xs=uP [.str (sb x.name),.int .i64 x.plus] o xs:=by rw[kf.cells_eq]
attribute [go_sem] kf.nbs kf.abx kf.reads kf.length kf.scalar
attribute [go_sem low] kf.an8
structure j7 where
 hole:Bool
 lz:List kf
def j7.cells(x:j7):List AV:=[.bool x.hole,.mb false 2 (mp kf.cells x.lz)]
theorem j7.nA(x:j7):x.cells=[.bool x.hole,.mb false 2 (mp kf.cells x.lz)]:=rfl
theorem j7.cells_eq(x:j7):x.cells=[.bool x.hole,.mb false 2 (mp kf.cells x.lz)]:=rfl
attribute [irreducible] j7.cells
theorem j7.length(x:j7):x.cells.length=2:=by rw[j7.cells_eq];rfl
def j7.scalar(x:j7):x.cells.all AV.scalar=true:=by rw[j7.cells_eq];rfl
theorem j7.nb(n:Nat)(x:j7):vK n x.cells:=by
 rw[j7.nA];exact⟨trivial,qD (kf.nb n) _,trivial⟩
def j7.of(H:List kq):List AV->Option j7
 |[c0,c1]=>(dB c0).bind fun x0=>(dL kf.row H c1).bind fun x1=>some (.mk x0 x1)
 |_=>none
def j7.vl{c0 c1:AV}:j7.of H [c0,c1]=(dB c0).bind fun x0=>(dL kf.row H c1).bind fun x1=>some (.mk x0 x1):=rfl
def j7.oQ(H:List kq)(x:j7):j7.of H [.bool x.hole,.mb false 2 (mp kf.cells x.lz)]=some x:=by
 simp only[j7.vl,LR,GL,Ve,wo,GK,beq_self_eq_true,eX,jM,dL,kf.qV,kf.row]
 try (cases x;rfl)
theorem j7.qE(H:List kq)(x:j7):j7.of H x.cells=some x:=by rw[j7.cells_eq];exact j7.oQ H x
def j7.Ak{x:j7}(h:j7.of H cs=some x):pE H n cs x.cells:=by
 unfold j7.of at h;split at h
 ·simp only[eU,eV] at h;obtain⟨x0,h0,x1,h1,rfl⟩:=h;rw[j7.nA];exact(pE.cons (aoZ h0) (pE.cons (Pz h1) pE.nil))
 ·cases h
def j7.kH:UV j7:=⟨j7.cells,j7.of,fun _ _ _ _ h=>j7.Ak h,j7.nb⟩
def j7.row:Row j7:=⟨j7.cells,j7.of [],2,fun _ _ h=>(j7.Ak (n:=0) h).pN,j7.nb⟩
def j7.qV(xs:List j7):ql (j7.of []) (mp j7.cells xs)=some xs:=Fe (j7.qE []) xs
def j7.GP(xs:List j7)(i:Nat)(r:List AV):ql (j7.of []) ((mp j7.cells xs).set i r)=bif decide (i<xs.length) then(j7.of [] r).bind fun y=>some (xs.set i y) else some xs:=Go.Abs.GP (j7.qE []) xs i r
attribute [go_sem low] j7.GP
def j7.JH:j7.row.enc=j7.cells/\j7.row.dec=j7.of []/\j7.row.sz=2/\j7.kH.enc=j7.cells/\j7.kH.dec=j7.of:=⟨rfl,rfl,rfl,rfl,rfl⟩
attribute [go_sem] j7.vl j7.qE j7.qV j7.JH
def j7.ww:(∀(y0:Bool)(y1:List kf),(j7.mk y0 y1).hole=y0)/\(∀(y0:Bool)(y1:List kf),(j7.mk y0 y1).lz=y1):=⟨fun _ _=>rfl,fun _ _=>rfl⟩
attribute [go_sem] j7.ww
def j7.nbs:(∀(n:Nat)(x:j7),Go.Abs.vK n x.cells=True)/\ ∀(n:Nat)(xs:List j7),Go.Abs.MU n (mp j7.cells xs)=True:=⟨fun n x=>eq_true (j7.nb n x),fun n xs=>eq_true (qD (j7.nb n) xs)⟩
def j7.abx:(∀(ρ:Nat->Nat)(x:j7),qQ ρ x.cells=x.cells)/\ ∀(ρ:Nat->Nat)(xs:List j7),DI ρ (mp j7.cells xs)=mp j7.cells xs:=⟨fun ρ x=>rR ρ _ (j7.nb 0 x),fun ρ xs=>uQ ρ _ (qD (j7.nb 0) xs)⟩
def j7.vw(H:List kq)(x:j7):vwL H x.cells=some (x.cells,[]):=LC H _ (j7.nb 0 x)
attribute [go_sem] j7.vw
def j7.reads:
 (∀x:j7,cellsOf (.agg x.cells)=some x.cells)/\
 (∀x:j7,l9 true 2 x.cells=some (.agg x.cells))/\
 (∀x:j7,l9 false 1 x.cells=some (.bool x.hole))/\
 (∀x:j7,l9 false 1 (x.cells.drop 1)=some (.mb false 2 (mp kf.cells x.lz))):=
 ⟨fun x=>by simp only[cellsOf,j7.scalar,jU],
  fun x=>A7 (j7.length x),
  fun x=>by rw[j7.cells_eq];rfl,
  fun x=>by rw[j7.cells_eq];rfl⟩
def j7.an8(x:j7)(o:Nat)(xs:List AV):uP x.cells o xs=uP [.bool x.hole,.mb false 2 (mp kf.cells x.lz)] o xs:=by rw[j7.cells_eq]
attribute [go_sem] j7.nbs j7.abx j7.reads j7.length j7.scalar
attribute [go_sem low] j7.an8
inductive Syntax where
 |mk (kind:Int) (text:Str) (num:Int) (names:List Str) (levels:List j7) (kids:List Syntax) (from_:Int) (to:Int)
def Syntax.kind:Syntax->Int| .mk x _ _ _ _ _ _ _=>x
def Syntax.text:Syntax->Str| .mk _ x _ _ _ _ _ _=>x
def Syntax.num:Syntax->Int| .mk _ _ x _ _ _ _ _=>x
def Syntax.names:Syntax->List Str| .mk _ _ _ x _ _ _ _=>x
def Syntax.levels:Syntax->List j7| .mk _ _ _ _ x _ _ _=>x
def Syntax.kids:Syntax->List Syntax| .mk _ _ _ _ _ x _ _=>x
def Syntax.from_:Syntax->Int| .mk _ _ _ _ _ _ x _=>x
def Syntax.to:Syntax->Int| .mk _ _ _ _ _ _ _ x=>x
mutual
def Syntax.cells:Syntax->List AV
 | .mk kind text num names levels kids from_ to=>[.int .i64 kind,.str (sb text),.int .i64 num,.mb false 1 (mp nB names),.mb false 2 (mp j7.cells levels),.mb false 8 (Syntax.aiw kids),.int .i64 from_,.int .i64 to]
def Syntax.aiw:List Syntax->List (List AV)
 |[]=>[]
 |t::ts=>t.cells::Syntax.aiw ts
end
theorem Syntax.aby: ∀ts:List Syntax,Syntax.aiw ts=mp Syntax.cells ts
 |[]=>by rw[rH];rfl
 |t::ts=>by rw[Syntax.aiw,Syntax.aby ts,rH,rH];rfl
theorem Syntax.nA(x:Syntax):x.cells=[.int .i64 x.kind,.str (sb x.text),.int .i64 x.num,.mb false 1 (mp nB x.names),.mb false 2 (mp j7.cells x.levels),.mb false 8 (mp Syntax.cells x.kids),.int .i64 x.from_,.int .i64 x.to]:=by
 cases x;simp only[Syntax.cells,Syntax.aby];rfl
theorem Syntax.cells_eq(x:Syntax):x.cells=[.int .i64 x.kind,.str (sb x.text),.int .i64 x.num,.mb false 1 (mp nB x.names),.mb false 2 (mp j7.cells x.levels),.mb false 8 (mp Syntax.cells x.kids),.int .i64 x.from_,.int .i64 x.to]:=by
 cases x;simp only[Syntax.cells,Syntax.aby,List.cons_append,List.nil_append,List.append_nil];rfl
attribute [irreducible] Syntax.cells
theorem Syntax.length(x:Syntax):x.cells.length=8:=by rw[Syntax.cells_eq];rfl
def Syntax.scalar(x:Syntax):x.cells.all AV.scalar=true:=by rw[Syntax.cells_eq];rfl
mutual
theorem Syntax.nb(n:Nat): ∀x:Syntax,vK n x.cells
 | .mk kind text num names levels kids from_ to=>by
   rw[Syntax.nA];exact⟨trivial,trivial,trivial,qD (Vm n) _,qD (j7.nb n) _,Syntax.MU n kids,trivial,trivial,trivial⟩
theorem Syntax.MU(n:Nat): ∀ts:List Syntax,MU n (mp Syntax.cells ts)
 |[]=>by rw[rH];trivial
 |t::ts=>by have:=Syntax.MU n ts;rw[rH] at this ⊢;exact⟨Syntax.nb n t,this⟩
end
mutual
def Syntax.of0:List AV->Option Syntax
 |[c0,c1,c2,c3,c4,.mb _ z5 r5,c6,c7]=>(dI .i64 c0).bind fun x0=>(dS c1).bind fun x1=>(dI .i64 c2).bind fun x2=>(dL nO [] c3).bind fun x3=>(dL j7.row [] c4).bind fun x4=>(bif GK z5 8 r5 then Syntax.ofR r5 else none).bind fun x5=>(dI .i64 c6).bind fun x6=>(dI .i64 c7).bind fun x7=>some (.mk x0 x1 x2 x3 x4 x5 x6 x7)
 |_=>none
def Syntax.ofR:List (List AV)->Option (List Syntax)
 |[]=>some []
 |r::rs=>(Syntax.of0 r).bind fun x=>(Syntax.ofR rs).bind fun xs=>some (x::xs)
end
def Syntax.atu: ∀rs,Syntax.ofR rs=ql Syntax.of0 rs
 |[]=>by simp only[Syntax.ofR,ql]
 |r::rs=>by simp only[Syntax.ofR,ql,Syntax.atu rs]
mutual
def Syntax.abz: ∀x:Syntax,Syntax.of0 x.cells=some x
 | .mk kind text num names levels kids from_ to=>by
   rw[Syntax.cells_eq];show Syntax.of0 [.int .i64 kind,.str (sb text),.int .i64 num,.mb false 1 (mp nB names),.mb false 2 (mp j7.cells levels),.mb false 8 (mp Syntax.cells kids),.int .i64 from_,.int .i64 to]=_;simp only[Syntax.of0,LR,GL,Ve,wo,GK,beq_self_eq_true,eX,jM,dL,Syntax.ahd kids,j7.qV,j7.row,FP,abo]
def Syntax.ahd: ∀xs:List Syntax,Syntax.ofR (mp Syntax.cells xs)=some xs
 |[]=>by rw[rH];simp only[List.map_nil,Syntax.ofR]
 |x::xs=>by have h:=Syntax.ahd xs;rw[rH] at h ⊢;simp only[List.map_cons,Syntax.ofR,Syntax.abz x,h,wo]
end
mutual
def Syntax.atv: ∀(x:Syntax)(r:List AV),Syntax.of0 r=some x->Ca r x.cells
 | .mk kind text num names levels kids from_ to,r,h=>by
   unfold Syntax.of0 at h;split at h
   ·simp only[eU,eV,Syntax.mk.injEq] at h;obtain⟨x0,h0,x1,h1,x2,h2,x3,h3,x4,h4,x5,h5,x6,h6,x7,h7,e0,e1,e2,e3,e4,e5,e6,e7⟩:=h;rw[e0] at h0;rw[e1] at h1;rw[e2] at h2;rw[e3] at h3;rw[e4] at h4;rw[e5] at h5;rw[e6] at h6;rw[e7] at h7;rw[Syntax.nA];exact(Ca.cons ((DY (H:=[]) (n:=0) h0).pN) (Ca.cons ((Z7 (H:=[]) (n:=0) h1).pN) (Ca.cons ((DY (H:=[]) (n:=0) h2).pN) (Ca.cons ((Pz (H:=[]) (n:=0) h3).pN) (Ca.cons ((Pz (H:=[]) (n:=0) h4).pN) (Ca.cons (azx (Syntax.atw kids _) h5) (Ca.cons ((DY (H:=[]) (n:=0) h6).pN) (Ca.cons ((DY (H:=[]) (n:=0) h7).pN) Ca.nil))))))))
   ·cases h
def Syntax.atw: ∀(xs:List Syntax)(rs:List (List AV)),Syntax.ofR rs=some xs->Q4 rs (mp Syntax.cells xs)
 |[],rs,h=>by
  cases rs with
  |nil=>rw[rH];exact Q4.nil
  |cons r rs=>
   simp only[Syntax.ofR,eU,eV] at h;obtain⟨_,_,_,_,h⟩:=h;cases h
 |x::xs,rs,h=>by
  cases rs with
  |nil=>simp only[Syntax.ofR,eV] at h;cases h
  |cons r rs=>
   simp only[Syntax.ofR,eU,eV,List.cons.injEq] at h;obtain⟨_,hx,_,hys,rfl,rfl⟩:=h;have h2:=Syntax.atw _ rs hys;rw[rH] at h2 ⊢;exact Q4.cons (Syntax.atv _ r hx).avv h2
end
def Syntax.row:Row Syntax:=⟨Syntax.cells,Syntax.of0,8,fun r x h=>Syntax.atv x r h,Syntax.nb⟩
def Syntax.qV(xs:List Syntax):ql Syntax.of0 (mp Syntax.cells xs)=some xs:=Fe Syntax.abz xs
def Syntax.of(H:List kq):List AV->Option Syntax
 |[c0,c1,c2,c3,c4,c5,c6,c7]=>(dI .i64 c0).bind fun x0=>(dS c1).bind fun x1=>(dI .i64 c2).bind fun x2=>(dL nO H c3).bind fun x3=>(dL j7.row H c4).bind fun x4=>(dL Syntax.row H c5).bind fun x5=>(dI .i64 c6).bind fun x6=>(dI .i64 c7).bind fun x7=>some (.mk x0 x1 x2 x3 x4 x5 x6 x7)
 |_=>none
def Syntax.vl{c0 c1 c2 c3 c4 c5 c6 c7:AV}:Syntax.of H [c0,c1,c2,c3,c4,c5,c6,c7]=(dI .i64 c0).bind fun x0=>(dS c1).bind fun x1=>(dI .i64 c2).bind fun x2=>(dL nO H c3).bind fun x3=>(dL j7.row H c4).bind fun x4=>(dL Syntax.row H c5).bind fun x5=>(dI .i64 c6).bind fun x6=>(dI .i64 c7).bind fun x7=>some (.mk x0 x1 x2 x3 x4 x5 x6 x7):=rfl
def Syntax.oQ(H:List kq)(x:Syntax):Syntax.of H [.int .i64 x.kind,.str (sb x.text),.int .i64 x.num,.mb false 1 (mp nB x.names),.mb false 2 (mp j7.cells x.levels),.mb false 8 (mp Syntax.cells x.kids),.int .i64 x.from_,.int .i64 x.to]=some x:=by
 simp only[Syntax.vl,LR,GL,Ve,wo,GK,beq_self_eq_true,eX,jM,dL,j7.qV,j7.row,Syntax.qV,Syntax.row,FP,abo]
 try (cases x;rfl)
theorem Syntax.qE(H:List kq)(x:Syntax):Syntax.of H x.cells=some x:=by rw[Syntax.cells_eq];exact Syntax.oQ H x
def Syntax.Ak{x:Syntax}(h:Syntax.of H cs=some x):pE H n cs x.cells:=by
 unfold Syntax.of at h;split at h
 ·simp only[eU,eV] at h;obtain⟨x0,h0,x1,h1,x2,h2,x3,h3,x4,h4,x5,h5,x6,h6,x7,h7,rfl⟩:=h;rw[Syntax.nA];exact(pE.cons (DY h0) (pE.cons (Z7 h1) (pE.cons (DY h2) (pE.cons (Pz h3) (pE.cons (Pz h4) (pE.cons (Pz h5) (pE.cons (DY h6) (pE.cons (DY h7) pE.nil))))))))
 ·cases h
def Syntax.kH:UV Syntax:=⟨Syntax.cells,Syntax.of,fun _ _ _ _ h=>Syntax.Ak h,Syntax.nb⟩
def Syntax.JH:Syntax.row.enc=Syntax.cells/\Syntax.row.dec=Syntax.of0/\Syntax.row.sz=8/\Syntax.kH.enc=Syntax.cells/\Syntax.kH.dec=Syntax.of:=⟨rfl,rfl,rfl,rfl,rfl⟩
def Syntax.eta(x:Syntax):Syntax.mk x.kind x.text x.num x.names x.levels x.kids x.from_ x.to=x:=by cases x;rfl
attribute [go_sem] Syntax.vl Syntax.qE Syntax.qV Syntax.JH Syntax.eta Syntax.of0 Syntax.abz Syntax.atu
def Syntax.ww:(∀(y0:Int)(y1:Str)(y2:Int)(y3:List Str)(y4:List j7)(y5:List Syntax)(y6:Int)(y7:Int),(Syntax.mk y0 y1 y2 y3 y4 y5 y6 y7).kind=y0)/\(∀(y0:Int)(y1:Str)(y2:Int)(y3:List Str)(y4:List j7)(y5:List Syntax)(y6:Int)(y7:Int),(Syntax.mk y0 y1 y2 y3 y4 y5 y6 y7).text=y1)/\(∀(y0:Int)(y1:Str)(y2:Int)(y3:List Str)(y4:List j7)(y5:List Syntax)(y6:Int)(y7:Int),(Syntax.mk y0 y1 y2 y3 y4 y5 y6 y7).num=y2)/\(∀(y0:Int)(y1:Str)(y2:Int)(y3:List Str)(y4:List j7)(y5:List Syntax)(y6:Int)(y7:Int),(Syntax.mk y0 y1 y2 y3 y4 y5 y6 y7).names=y3)/\(∀(y0:Int)(y1:Str)(y2:Int)(y3:List Str)(y4:List j7)(y5:List Syntax)(y6:Int)(y7:Int),(Syntax.mk y0 y1 y2 y3 y4 y5 y6 y7).levels=y4)/\(∀(y0:Int)(y1:Str)(y2:Int)(y3:List Str)(y4:List j7)(y5:List Syntax)(y6:Int)(y7:Int),(Syntax.mk y0 y1 y2 y3 y4 y5 y6 y7).kids=y5)/\(∀(y0:Int)(y1:Str)(y2:Int)(y3:List Str)(y4:List j7)(y5:List Syntax)(y6:Int)(y7:Int),(Syntax.mk y0 y1 y2 y3 y4 y5 y6 y7).from_=y6)/\(∀(y0:Int)(y1:Str)(y2:Int)(y3:List Str)(y4:List j7)(y5:List Syntax)(y6:Int)(y7:Int),(Syntax.mk y0 y1 y2 y3 y4 y5 y6 y7).to=y7):=⟨fun _ _ _ _ _ _ _ _=>rfl,fun _ _ _ _ _ _ _ _=>rfl,fun _ _ _ _ _ _ _ _=>rfl,fun _ _ _ _ _ _ _ _=>rfl,fun _ _ _ _ _ _ _ _=>rfl,fun _ _ _ _ _ _ _ _=>rfl,fun _ _ _ _ _ _ _ _=>rfl,fun _ _ _ _ _ _ _ _=>rfl⟩
attribute [go_sem] Syntax.ww
def Syntax.nbs:(∀(n:Nat)(x:Syntax),Go.Abs.vK n x.cells=True)/\ ∀(n:Nat)(xs:List Syntax),Go.Abs.MU n (mp Syntax.cells xs)=True:=⟨fun n x=>eq_true (Syntax.nb n x),fun n xs=>eq_true (qD (Syntax.nb n) xs)⟩
def Syntax.abx:(∀(ρ:Nat->Nat)(x:Syntax),qQ ρ x.cells=x.cells)/\ ∀(ρ:Nat->Nat)(xs:List Syntax),DI ρ (mp Syntax.cells xs)=mp Syntax.cells xs:=⟨fun ρ x=>rR ρ _ (Syntax.nb 0 x),fun ρ xs=>uQ ρ _ (qD (Syntax.nb 0) xs)⟩
def Syntax.vw(H:List kq)(x:Syntax):vwL H x.cells=some (x.cells,[]):=LC H _ (Syntax.nb 0 x)
attribute [go_sem] Syntax.vw
theorem Syntax.frz(low:Nat)(H:List kq)(x:Syntax):afL low H x.cells=x.cells:=LM low H _ (Syntax.nb 0 x)
def Syntax.tk:(∀x:Syntax,List.take 8 x.cells=x.cells)/\ ∀x:Syntax,List.drop 8 x.cells=[]:=⟨fun x=>by rw[Syntax.cells_eq];rfl,fun x=>by rw[Syntax.cells_eq];rfl⟩
attribute [go_sem] Syntax.tk
def Syntax.reads:
 (∀x:Syntax,cellsOf (.agg x.cells)=some x.cells)/\
 (∀x:Syntax,l9 true 8 x.cells=some (.agg x.cells))/\
 (∀x:Syntax,l9 false 1 x.cells=some (.int .i64 x.kind))/\
 (∀x:Syntax,l9 false 1 (x.cells.drop 1)=some (.str (sb x.text)))/\
 (∀x:Syntax,l9 false 1 (x.cells.drop 2)=some (.int .i64 x.num))/\
 (∀x:Syntax,l9 false 1 (x.cells.drop 3)=some (.mb false 1 (mp nB x.names)))/\
 (∀x:Syntax,l9 false 1 (x.cells.drop 4)=some (.mb false 2 (mp j7.cells x.levels)))/\
 (∀x:Syntax,l9 false 1 (x.cells.drop 5)=some (.mb false 8 (mp Syntax.cells x.kids)))/\
 (∀x:Syntax,l9 false 1 (x.cells.drop 6)=some (.int .i64 x.from_))/\
 (∀x:Syntax,l9 false 1 (x.cells.drop 7)=some (.int .i64 x.to)):=
 ⟨fun x=>by simp only[cellsOf,Syntax.scalar,jU],
  fun x=>A7 (Syntax.length x),
  fun x=>by rw[Syntax.cells_eq];rfl,
  fun x=>by rw[Syntax.cells_eq];rfl,
  fun x=>by rw[Syntax.cells_eq];rfl,
  fun x=>by rw[Syntax.cells_eq];rfl,
  fun x=>by rw[Syntax.cells_eq];rfl,
  fun x=>by rw[Syntax.cells_eq];rfl,
  fun x=>by rw[Syntax.cells_eq];rfl,
  fun x=>by rw[Syntax.cells_eq];rfl⟩
def Syntax.an8(x:Syntax)(o:Nat)(xs:List AV):uP x.cells o xs=uP [.int .i64 x.kind,.str (sb x.text),.int .i64 x.num,.mb false 1 (mp nB x.names),.mb false 2 (mp j7.cells x.levels),.mb false 8 (mp Syntax.cells x.kids),.int .i64 x.from_,.int .i64 x.to] o xs:=by rw[Syntax.cells_eq]
def Syntax.cns(x:Syntax)(c:AV):c::x.cells=[c,.int .i64 x.kind,.str (sb x.text),.int .i64 x.num,.mb false 1 (mp nB x.names),.mb false 2 (mp j7.cells x.levels),.mb false 8 (mp Syntax.cells x.kids),.int .i64 x.from_,.int .i64 x.to]:=by rw[Syntax.cells_eq]
attribute [go_sem] Syntax.cns Syntax.nbs Syntax.abx Syntax.frz Syntax.reads Syntax.length Syntax.scalar
attribute [go_sem low] Syntax.an8
structure kI where
 kind:Int
 text:Str
 at_:Int
def kI.cells(x:kI):List AV:=[.int .i64 x.kind,.str (sb x.text),.int .i64 x.at_]
theorem kI.nA(x:kI):x.cells=[.int .i64 x.kind,.str (sb x.text),.int .i64 x.at_]:=rfl
theorem kI.cells_eq(x:kI):x.cells=[.int .i64 x.kind,.str (sb x.text),.int .i64 x.at_]:=rfl
attribute [irreducible] kI.cells
theorem kI.length(x:kI):x.cells.length=3:=by rw[kI.cells_eq];rfl
def kI.scalar(x:kI):x.cells.all AV.scalar=true:=by rw[kI.cells_eq];rfl
theorem kI.nb(n:Nat)(x:kI):vK n x.cells:=by
 rw[kI.nA];exact⟨trivial,trivial,trivial,trivial⟩
def kI.of(H:List kq):List AV->Option kI
 |[c0,c1,c2]=>(dI .i64 c0).bind fun x0=>(dS c1).bind fun x1=>(dI .i64 c2).bind fun x2=>some (.mk x0 x1 x2)
 |_=>none
def kI.vl{c0 c1 c2:AV}:kI.of H [c0,c1,c2]=(dI .i64 c0).bind fun x0=>(dS c1).bind fun x1=>(dI .i64 c2).bind fun x2=>some (.mk x0 x1 x2):=rfl
def kI.oQ(H:List kq)(x:kI):kI.of H [.int .i64 x.kind,.str (sb x.text),.int .i64 x.at_]=some x:=by
 simp only[kI.vl,LR,GL,Ve,wo,GK,beq_self_eq_true,eX,jM,dL]
 try (cases x;rfl)
theorem kI.qE(H:List kq)(x:kI):kI.of H x.cells=some x:=by rw[kI.cells_eq];exact kI.oQ H x
def kI.Ak{x:kI}(h:kI.of H cs=some x):pE H n cs x.cells:=by
 unfold kI.of at h;split at h
 ·simp only[eU,eV] at h;obtain⟨x0,h0,x1,h1,x2,h2,rfl⟩:=h;rw[kI.nA];exact(pE.cons (DY h0) (pE.cons (Z7 h1) (pE.cons (DY h2) pE.nil)))
 ·cases h
def kI.kH:UV kI:=⟨kI.cells,kI.of,fun _ _ _ _ h=>kI.Ak h,kI.nb⟩
def kI.row:Row kI:=⟨kI.cells,kI.of [],3,fun _ _ h=>(kI.Ak (n:=0) h).pN,kI.nb⟩
def kI.qV(xs:List kI):ql (kI.of []) (mp kI.cells xs)=some xs:=Fe (kI.qE []) xs
def kI.JH:kI.row.enc=kI.cells/\kI.row.dec=kI.of []/\kI.row.sz=3/\kI.kH.enc=kI.cells/\kI.kH.dec=kI.of:=⟨rfl,rfl,rfl,rfl,rfl⟩
attribute [go_sem] kI.vl kI.qE kI.qV kI.JH
def kI.ww:(∀(y0:Int)(y1:Str)(y2:Int),(kI.mk y0 y1 y2).kind=y0)/\(∀(y0:Int)(y1:Str)(y2:Int),(kI.mk y0 y1 y2).text=y1)/\(∀(y0:Int)(y1:Str)(y2:Int),(kI.mk y0 y1 y2).at_=y2):=⟨fun _ _ _=>rfl,fun _ _ _=>rfl,fun _ _ _=>rfl⟩
attribute [go_sem] kI.ww
def kI.nbs:(∀(n:Nat)(x:kI),Go.Abs.vK n x.cells=True)/\ ∀(n:Nat)(xs:List kI),Go.Abs.MU n (mp kI.cells xs)=True:=⟨fun n x=>eq_true (kI.nb n x),fun n xs=>eq_true (qD (kI.nb n) xs)⟩
def kI.vw(H:List kq)(x:kI):vwL H x.cells=some (x.cells,[]):=LC H _ (kI.nb 0 x)
attribute [go_sem] kI.vw
theorem kI.frz(low:Nat)(H:List kq)(x:kI):afL low H x.cells=x.cells:=LM low H _ (kI.nb 0 x)
def kI.reads:
 (∀x:kI,cellsOf (.agg x.cells)=some x.cells)/\
 (∀x:kI,l9 true 3 x.cells=some (.agg x.cells))/\
 (∀x:kI,l9 false 1 x.cells=some (.int .i64 x.kind))/\
 (∀x:kI,l9 false 1 (x.cells.drop 1)=some (.str (sb x.text)))/\
 (∀x:kI,l9 false 1 (x.cells.drop 2)=some (.int .i64 x.at_)):=
 ⟨fun x=>by simp only[cellsOf,kI.scalar,jU],
  fun x=>A7 (kI.length x),
  fun x=>by rw[kI.cells_eq];rfl,
  fun x=>by rw[kI.cells_eq];rfl,
  fun x=>by rw[kI.cells_eq];rfl⟩
attribute [go_sem] kI.nbs kI.frz kI.reads kI.length kI.scalar
structure jY where
 parts:List Str
 level:Int
 BO:Int
 target:Str
def jY.cells(x:jY):List AV:=[.mb false 1 (mp nB x.parts),.int .i64 x.level,.int .i64 x.BO,.str (sb x.target)]
theorem jY.nA(x:jY):x.cells=[.mb false 1 (mp nB x.parts),.int .i64 x.level,.int .i64 x.BO,.str (sb x.target)]:=rfl
theorem jY.cells_eq(x:jY):x.cells=[.mb false 1 (mp nB x.parts),.int .i64 x.level,.int .i64 x.BO,.str (sb x.target)]:=rfl
attribute [irreducible] jY.cells
theorem jY.length(x:jY):x.cells.length=4:=by rw[jY.cells_eq];rfl
def jY.scalar(x:jY):x.cells.all AV.scalar=true:=by rw[jY.cells_eq];rfl
theorem jY.nb(n:Nat)(x:jY):vK n x.cells:=by
 rw[jY.nA];exact⟨qD (Vm n) _,trivial,trivial,trivial,trivial⟩
def jY.of(H:List kq):List AV->Option jY
 |[c0,c1,c2,c3]=>(dL nO H c0).bind fun x0=>(dI .i64 c1).bind fun x1=>(dI .i64 c2).bind fun x2=>(dS c3).bind fun x3=>some (.mk x0 x1 x2 x3)
 |_=>none
def jY.vl{c0 c1 c2 c3:AV}:jY.of H [c0,c1,c2,c3]=(dL nO H c0).bind fun x0=>(dI .i64 c1).bind fun x1=>(dI .i64 c2).bind fun x2=>(dS c3).bind fun x3=>some (.mk x0 x1 x2 x3):=rfl
def jY.oQ(H:List kq)(x:jY):jY.of H [.mb false 1 (mp nB x.parts),.int .i64 x.level,.int .i64 x.BO,.str (sb x.target)]=some x:=by
 simp only[jY.vl,LR,GL,Ve,wo,GK,beq_self_eq_true,eX,jM,dL,FP,abo]
 try (cases x;rfl)
theorem jY.qE(H:List kq)(x:jY):jY.of H x.cells=some x:=by rw[jY.cells_eq];exact jY.oQ H x
def jY.Ak{x:jY}(h:jY.of H cs=some x):pE H n cs x.cells:=by
 unfold jY.of at h;split at h
 ·simp only[eU,eV] at h;obtain⟨x0,h0,x1,h1,x2,h2,x3,h3,rfl⟩:=h;rw[jY.nA];exact(pE.cons (Pz h0) (pE.cons (DY h1) (pE.cons (DY h2) (pE.cons (Z7 h3) pE.nil))))
 ·cases h
def jY.kH:UV jY:=⟨jY.cells,jY.of,fun _ _ _ _ h=>jY.Ak h,jY.nb⟩
def jY.row:Row jY:=⟨jY.cells,jY.of [],4,fun _ _ h=>(jY.Ak (n:=0) h).pN,jY.nb⟩
def jY.qV(xs:List jY):ql (jY.of []) (mp jY.cells xs)=some xs:=Fe (jY.qE []) xs
def jY.JH:jY.row.enc=jY.cells/\jY.row.dec=jY.of []/\jY.row.sz=4/\jY.kH.enc=jY.cells/\jY.kH.dec=jY.of:=⟨rfl,rfl,rfl,rfl,rfl⟩
attribute [go_sem] jY.vl jY.qE jY.qV jY.JH
def jY.ww:(∀(y0:List Str)(y1:Int)(y2:Int)(y3:Str),(jY.mk y0 y1 y2 y3).parts=y0)/\(∀(y0:List Str)(y1:Int)(y2:Int)(y3:Str),(jY.mk y0 y1 y2 y3).level=y1)/\(∀(y0:List Str)(y1:Int)(y2:Int)(y3:Str),(jY.mk y0 y1 y2 y3).BO=y2)/\(∀(y0:List Str)(y1:Int)(y2:Int)(y3:Str),(jY.mk y0 y1 y2 y3).target=y3):=⟨fun _ _ _ _=>rfl,fun _ _ _ _=>rfl,fun _ _ _ _=>rfl,fun _ _ _ _=>rfl⟩
attribute [go_sem] jY.ww
def jY.nbs:(∀(n:Nat)(x:jY),Go.Abs.vK n x.cells=True)/\ ∀(n:Nat)(xs:List jY),Go.Abs.MU n (mp jY.cells xs)=True:=⟨fun n x=>eq_true (jY.nb n x),fun n xs=>eq_true (qD (jY.nb n) xs)⟩
def jY.vw(H:List kq)(x:jY):vwL H x.cells=some (x.cells,[]):=LC H _ (jY.nb 0 x)
attribute [go_sem] jY.vw
def jY.reads:
 (∀x:jY,cellsOf (.agg x.cells)=some x.cells)/\
 (∀x:jY,l9 true 4 x.cells=some (.agg x.cells))/\
 (∀x:jY,l9 false 1 x.cells=some (.mb false 1 (mp nB x.parts)))/\
 (∀x:jY,l9 false 1 (x.cells.drop 1)=some (.int .i64 x.level))/\
 (∀x:jY,l9 false 1 (x.cells.drop 2)=some (.int .i64 x.BO))/\
 (∀x:jY,l9 false 1 (x.cells.drop 3)=some (.str (sb x.target))):=
 ⟨fun x=>by simp only[cellsOf,jY.scalar,jU],
  fun x=>A7 (jY.length x),
  fun x=>by rw[jY.cells_eq];rfl,
  fun x=>by rw[jY.cells_eq];rfl,
  fun x=>by rw[jY.cells_eq];rfl,
  fun x=>by rw[jY.cells_eq];rfl⟩
attribute [go_sem] jY.nbs jY.reads jY.length jY.scalar
structure kr where
 e:Int
 at_:Int
def kr.cells(x:kr):List AV:=[.int .i64 x.e,.int .i64 x.at_]
theorem kr.nA(x:kr):x.cells=[.int .i64 x.e,.int .i64 x.at_]:=rfl
theorem kr.cells_eq(x:kr):x.cells=[.int .i64 x.e,.int .i64 x.at_]:=rfl
attribute [irreducible] kr.cells
theorem kr.length(x:kr):x.cells.length=2:=by rw[kr.cells_eq];rfl
def kr.scalar(x:kr):x.cells.all AV.scalar=true:=by rw[kr.cells_eq];rfl
theorem kr.nb(n:Nat)(x:kr):vK n x.cells:=by
 rw[kr.nA];exact⟨trivial,trivial,trivial⟩
def kr.of(H:List kq):List AV->Option kr
 |[c0,c1]=>(dI .i64 c0).bind fun x0=>(dI .i64 c1).bind fun x1=>some (.mk x0 x1)
 |_=>none
def kr.vl{c0 c1:AV}:kr.of H [c0,c1]=(dI .i64 c0).bind fun x0=>(dI .i64 c1).bind fun x1=>some (.mk x0 x1):=rfl
def kr.oQ(H:List kq)(x:kr):kr.of H [.int .i64 x.e,.int .i64 x.at_]=some x:=by
 simp only[kr.vl,LR,GL,Ve,wo,GK,beq_self_eq_true,eX,jM,dL]
 try (cases x;rfl)
theorem kr.qE(H:List kq)(x:kr):kr.of H x.cells=some x:=by rw[kr.cells_eq];exact kr.oQ H x
def kr.Ak{x:kr}(h:kr.of H cs=some x):pE H n cs x.cells:=by
 unfold kr.of at h;split at h
 ·simp only[eU,eV] at h;obtain⟨x0,h0,x1,h1,rfl⟩:=h;rw[kr.nA];exact(pE.cons (DY h0) (pE.cons (DY h1) pE.nil))
 ·cases h
def kr.kH:UV kr:=⟨kr.cells,kr.of,fun _ _ _ _ h=>kr.Ak h,kr.nb⟩
def kr.row:Row kr:=⟨kr.cells,kr.of [],2,fun _ _ h=>(kr.Ak (n:=0) h).pN,kr.nb⟩
def kr.JH:kr.row.enc=kr.cells/\kr.row.dec=kr.of []/\kr.row.sz=2/\kr.kH.enc=kr.cells/\kr.kH.dec=kr.of:=⟨rfl,rfl,rfl,rfl,rfl⟩
attribute [go_sem] kr.vl kr.qE kr.JH
def kr.ww:(∀(y0:Int)(y1:Int),(kr.mk y0 y1).e=y0)/\(∀(y0:Int)(y1:Int),(kr.mk y0 y1).at_=y1):=⟨fun _ _=>rfl,fun _ _=>rfl⟩
attribute [go_sem] kr.ww
def kr.abx:(∀(ρ:Nat->Nat)(x:kr),qQ ρ x.cells=x.cells)/\ ∀(ρ:Nat->Nat)(xs:List kr),DI ρ (mp kr.cells xs)=mp kr.cells xs:=⟨fun ρ x=>rR ρ _ (kr.nb 0 x),fun ρ xs=>uQ ρ _ (qD (kr.nb 0) xs)⟩
def kr.vw(H:List kq)(x:kr):vwL H x.cells=some (x.cells,[]):=LC H _ (kr.nb 0 x)
attribute [go_sem] kr.vw
def kr.reads:
 (∀x:kr,cellsOf (.agg x.cells)=some x.cells)/\
 (∀x:kr,l9 true 2 x.cells=some (.agg x.cells))/\
 (∀x:kr,l9 false 1 x.cells=some (.int .i64 x.e))/\
 (∀x:kr,l9 false 1 (x.cells.drop 1)=some (.int .i64 x.at_)):=
 ⟨fun x=>by simp only[cellsOf,kr.scalar,jU],
  fun x=>A7 (kr.length x),
  fun x=>by rw[kr.cells_eq];rfl,
  fun x=>by rw[kr.cells_eq];rfl⟩
attribute [go_sem] kr.abx kr.reads kr.length kr.scalar
structure ku where
 tokens:List kI
 next:Int
 base:Int
def ku.cells(x:ku):List AV:=[.mb false 3 (mp kI.cells x.tokens),.int .i64 x.next,.int .i64 x.base]
theorem ku.nA(x:ku):x.cells=[.mb false 3 (mp kI.cells x.tokens),.int .i64 x.next,.int .i64 x.base]:=rfl
theorem ku.cells_eq(x:ku):x.cells=[.mb false 3 (mp kI.cells x.tokens),.int .i64 x.next,.int .i64 x.base]:=rfl
attribute [irreducible] ku.cells
theorem ku.length(x:ku):x.cells.length=3:=by rw[ku.cells_eq];rfl
def ku.scalar(x:ku):x.cells.all AV.scalar=true:=by rw[ku.cells_eq];rfl
theorem ku.nb(n:Nat)(x:ku):vK n x.cells:=by
 rw[ku.nA];exact⟨qD (kI.nb n) _,trivial,trivial,trivial⟩
def ku.of(H:List kq):List AV->Option ku
 |[c0,c1,c2]=>(dL kI.row H c0).bind fun x0=>(dI .i64 c1).bind fun x1=>(dI .i64 c2).bind fun x2=>some (.mk x0 x1 x2)
 |_=>none
def ku.vl{c0 c1 c2:AV}:ku.of H [c0,c1,c2]=(dL kI.row H c0).bind fun x0=>(dI .i64 c1).bind fun x1=>(dI .i64 c2).bind fun x2=>some (.mk x0 x1 x2):=rfl
def ku.oQ(H:List kq)(x:ku):ku.of H [.mb false 3 (mp kI.cells x.tokens),.int .i64 x.next,.int .i64 x.base]=some x:=by
 simp only[ku.vl,LR,GL,Ve,wo,GK,beq_self_eq_true,eX,jM,dL,kI.qV,kI.row]
 try (cases x;rfl)
def ku.Ak{x:ku}(h:ku.of H cs=some x):pE H n cs x.cells:=by
 unfold ku.of at h;split at h
 ·simp only[eU,eV] at h;obtain⟨x0,h0,x1,h1,x2,h2,rfl⟩:=h;rw[ku.nA];exact(pE.cons (Pz h0) (pE.cons (DY h1) (pE.cons (DY h2) pE.nil)))
 ·cases h
def ku.kH:UV ku:=⟨ku.cells,ku.of,fun _ _ _ _ h=>ku.Ak h,ku.nb⟩
def ku.row:Row ku:=⟨ku.cells,ku.of [],3,fun _ _ h=>(ku.Ak (n:=0) h).pN,ku.nb⟩
def ku.JH:ku.row.enc=ku.cells/\ku.row.dec=ku.of []/\ku.row.sz=3/\ku.kH.enc=ku.cells/\ku.kH.dec=ku.of:=⟨rfl,rfl,rfl,rfl,rfl⟩
def ku.eta(x:ku):ku.mk x.tokens x.next x.base=x:=by cases x;rfl
attribute [go_sem] ku.vl ku.JH ku.eta
def ku.ww:(∀(y0:List kI)(y1:Int)(y2:Int),(ku.mk y0 y1 y2).tokens=y0)/\(∀(y0:List kI)(y1:Int)(y2:Int),(ku.mk y0 y1 y2).next=y1)/\(∀(y0:List kI)(y1:Int)(y2:Int),(ku.mk y0 y1 y2).base=y2):=⟨fun _ _ _=>rfl,fun _ _ _=>rfl,fun _ _ _=>rfl⟩
attribute [go_sem] ku.ww
def ku.abx:(∀(ρ:Nat->Nat)(x:ku),qQ ρ x.cells=x.cells)/\ ∀(ρ:Nat->Nat)(xs:List ku),DI ρ (mp ku.cells xs)=mp ku.cells xs:=⟨fun ρ x=>rR ρ _ (ku.nb 0 x),fun ρ xs=>uQ ρ _ (qD (ku.nb 0) xs)⟩
def ku.reads:
 (∀x:ku,cellsOf (.agg x.cells)=some x.cells)/\
 (∀x:ku,l9 true 3 x.cells=some (.agg x.cells))/\
 (∀x:ku,l9 false 1 x.cells=some (.mb false 3 (mp kI.cells x.tokens)))/\
 (∀x:ku,l9 false 1 (x.cells.drop 1)=some (.int .i64 x.next))/\
 (∀x:ku,l9 false 1 (x.cells.drop 2)=some (.int .i64 x.base)):=
 ⟨fun x=>by simp only[cellsOf,ku.scalar,jU],
  fun x=>A7 (ku.length x),
  fun x=>by rw[ku.cells_eq];rfl,
  fun x=>by rw[ku.cells_eq];rfl,
  fun x=>by rw[ku.cells_eq];rfl⟩
theorem ku.app(x:ku)(l:List AV):x.cells++l=(.mb false 3 (mp kI.cells x.tokens):AV)::(.int .i64 x.next:AV)::(.int .i64 x.base:AV)::l:=by rw[ku.cells_eq];rfl
attribute [go_sem] ku.app ku.abx ku.reads ku.length ku.scalar
structure jX where
 so:ku
 table:List jY
 xO:List Str
 depth:Int
def jX.cells(x:jX):List AV:=x.so.cells++[.mb false 4 (mp jY.cells x.table),.mb false 1 (mp nB x.xO),.int .i64 x.depth]
theorem jX.nA(x:jX):x.cells=x.so.cells++[.mb false 4 (mp jY.cells x.table),.mb false 1 (mp nB x.xO),.int .i64 x.depth]:=rfl
theorem jX.cells_eq(x:jX):x.cells=[.mb false 3 (mp kI.cells x.so.tokens),.int .i64 x.so.next,.int .i64 x.so.base,.mb false 4 (mp jY.cells x.table),.mb false 1 (mp nB x.xO),.int .i64 x.depth]:=by
 simp only[jX.cells,ku.cells_eq,List.cons_append,List.nil_append,List.append_nil]
attribute [irreducible] jX.cells
theorem jX.length(x:jX):x.cells.length=6:=by rw[jX.cells_eq];rfl
def jX.scalar(x:jX):x.cells.all AV.scalar=true:=by rw[jX.cells_eq];rfl
theorem jX.nb(n:Nat)(x:jX):vK n x.cells:=by
 rw[jX.nA];exact(IT (ku.nb n x.so) ⟨qD (jY.nb n) _,qD (Vm n) _,trivial,trivial⟩)
def jX.of(H:List kq):List AV->Option jX
 |[c0,c1,c2,c3,c4,c5]=>(ku.of H [c0,c1,c2]).bind fun x0=>(dL jY.row H c3).bind fun x1=>(dL nO H c4).bind fun x2=>(dI .i64 c5).bind fun x3=>some (.mk x0 x1 x2 x3)
 |_=>none
def jX.vl{c0 c1 c2 c3 c4 c5:AV}:jX.of H [c0,c1,c2,c3,c4,c5]=(ku.of H [c0,c1,c2]).bind fun x0=>(dL jY.row H c3).bind fun x1=>(dL nO H c4).bind fun x2=>(dI .i64 c5).bind fun x3=>some (.mk x0 x1 x2 x3):=rfl
def jX.oQ(H:List kq)(x:jX):jX.of H [.mb false 3 (mp kI.cells x.so.tokens),.int .i64 x.so.next,.int .i64 x.so.base,.mb false 4 (mp jY.cells x.table),.mb false 1 (mp nB x.xO),.int .i64 x.depth]=some x:=by
 simp only[jX.vl,LR,GL,Ve,wo,GK,beq_self_eq_true,eX,jM,dL,jY.qV,jY.row,FP,abo,ku.oQ]
 try (cases x;rfl)
theorem jX.qE(H:List kq)(x:jX):jX.of H x.cells=some x:=by rw[jX.cells_eq];exact jX.oQ H x
def jX.Ak{x:jX}(h:jX.of H cs=some x):pE H n cs x.cells:=by
 unfold jX.of at h;split at h
 ·simp only[eU,eV] at h;obtain⟨x0,h0,x1,h1,x2,h2,x3,h3,rfl⟩:=h;rw[jX.nA];exact(pE.append (ku.Ak h0) (pE.cons (Pz h1) (pE.cons (Pz h2) (pE.cons (DY h3) pE.nil))))
 ·cases h
def jX.kH:UV jX:=⟨jX.cells,jX.of,fun _ _ _ _ h=>jX.Ak h,jX.nb⟩
def jX.row:Row jX:=⟨jX.cells,jX.of [],6,fun _ _ h=>(jX.Ak (n:=0) h).pN,jX.nb⟩
def jX.JH:jX.row.enc=jX.cells/\jX.row.dec=jX.of []/\jX.row.sz=6/\jX.kH.enc=jX.cells/\jX.kH.dec=jX.of:=⟨rfl,rfl,rfl,rfl,rfl⟩
attribute [go_sem] jX.vl jX.qE jX.JH
def jX.ww:(∀(y0:ku)(y1:List jY)(y2:List Str)(y3:Int),(jX.mk y0 y1 y2 y3).so=y0)/\(∀(y0:ku)(y1:List jY)(y2:List Str)(y3:Int),(jX.mk y0 y1 y2 y3).table=y1)/\(∀(y0:ku)(y1:List jY)(y2:List Str)(y3:Int),(jX.mk y0 y1 y2 y3).xO=y2)/\(∀(y0:ku)(y1:List jY)(y2:List Str)(y3:Int),(jX.mk y0 y1 y2 y3).depth=y3):=⟨fun _ _ _ _=>rfl,fun _ _ _ _=>rfl,fun _ _ _ _=>rfl,fun _ _ _ _=>rfl⟩
attribute [go_sem] jX.ww
def jX.nbs:(∀(n:Nat)(x:jX),Go.Abs.vK n x.cells=True)/\ ∀(n:Nat)(xs:List jX),Go.Abs.MU n (mp jX.cells xs)=True:=⟨fun n x=>eq_true (jX.nb n x),fun n xs=>eq_true (qD (jX.nb n) xs)⟩
def jX.abx:(∀(ρ:Nat->Nat)(x:jX),qQ ρ x.cells=x.cells)/\ ∀(ρ:Nat->Nat)(xs:List jX),DI ρ (mp jX.cells xs)=mp jX.cells xs:=⟨fun ρ x=>rR ρ _ (jX.nb 0 x),fun ρ xs=>uQ ρ _ (qD (jX.nb 0) xs)⟩
def jX.tk:(∀x:jX,List.take 6 x.cells=x.cells)/\ ∀x:jX,List.drop 6 x.cells=[]:=⟨fun x=>by rw[jX.cells_eq];rfl,fun x=>by rw[jX.cells_eq];rfl⟩
attribute [go_sem] jX.tk
def jX.reads:
 (∀x:jX,cellsOf (.agg x.cells)=some x.cells)/\
 (∀x:jX,l9 true 6 x.cells=some (.agg x.cells))/\
 (∀x:jX,l9 false 1 x.cells=some (.mb false 3 (mp kI.cells x.so.tokens)))/\
 (∀x:jX,l9 false 1 (x.cells.drop 1)=some (.int .i64 x.so.next))/\
 (∀x:jX,l9 false 1 (x.cells.drop 2)=some (.int .i64 x.so.base))/\
 (∀x:jX,l9 false 1 (x.cells.drop 3)=some (.mb false 4 (mp jY.cells x.table)))/\
 (∀x:jX,l9 false 1 (x.cells.drop 4)=some (.mb false 1 (mp nB x.xO)))/\
 (∀x:jX,l9 false 1 (x.cells.drop 5)=some (.int .i64 x.depth))/\
 (∀x:jX,l9 true 3 x.cells=some (.agg x.so.cells)):=
 ⟨fun x=>by simp only[cellsOf,jX.scalar,jU],
  fun x=>A7 (jX.length x),
  fun x=>by rw[jX.cells_eq];rfl,
  fun x=>by rw[jX.cells_eq];rfl,
  fun x=>by rw[jX.cells_eq];rfl,
  fun x=>by rw[jX.cells_eq];rfl,
  fun x=>by rw[jX.cells_eq];rfl,
  fun x=>by rw[jX.cells_eq];rfl,
  fun x=>by rw[jX.cells_eq];simp only[ku.cells_eq,List.drop_succ_cons,List.drop_zero];rfl⟩
def jX.an8(x:jX)(o:Nat)(xs:List AV):uP x.cells o xs=uP [.mb false 3 (mp kI.cells x.so.tokens),.int .i64 x.so.next,.int .i64 x.so.base,.mb false 4 (mp jY.cells x.table),.mb false 1 (mp nB x.xO),.int .i64 x.depth] o xs:=by rw[jX.cells_eq]
attribute [go_sem] jX.nbs jX.abx jX.reads jX.length jX.scalar
attribute [go_sem low] jX.an8
structure kg where
 name:Str
 t:Syntax
def kg.cells(x:kg):List AV:=[.str (sb x.name)]++x.t.cells
theorem kg.nA(x:kg):x.cells=[.str (sb x.name)]++x.t.cells:=rfl
theorem kg.cells_eq(x:kg):x.cells=[.str (sb x.name),.int .i64 x.t.kind,.str (sb x.t.text),.int .i64 x.t.num,.mb false 1 (mp nB x.t.names),.mb false 2 (mp j7.cells x.t.levels),.mb false 8 (mp Syntax.cells x.t.kids),.int .i64 x.t.from_,.int .i64 x.t.to]:=by
 simp only[kg.cells,Syntax.cells_eq,List.cons_append,List.nil_append,List.append_nil]
attribute [irreducible] kg.cells
theorem kg.length(x:kg):x.cells.length=9:=by rw[kg.cells_eq];rfl
def kg.scalar(x:kg):x.cells.all AV.scalar=true:=by rw[kg.cells_eq];rfl
theorem kg.nb(n:Nat)(x:kg):vK n x.cells:=by
 rw[kg.nA];exact(IT ⟨trivial,trivial⟩ (Syntax.nb n x.t))
def kg.of(H:List kq):List AV->Option kg
 |[c0,c1,c2,c3,c4,c5,c6,c7,c8]=>(dS c0).bind fun x0=>(Syntax.of H [c1,c2,c3,c4,c5,c6,c7,c8]).bind fun x1=>some (.mk x0 x1)
 |_=>none
def kg.vl{c0 c1 c2 c3 c4 c5 c6 c7 c8:AV}:kg.of H [c0,c1,c2,c3,c4,c5,c6,c7,c8]=(dS c0).bind fun x0=>(Syntax.of H [c1,c2,c3,c4,c5,c6,c7,c8]).bind fun x1=>some (.mk x0 x1):=rfl
def kg.oQ(H:List kq)(x:kg):kg.of H [.str (sb x.name),.int .i64 x.t.kind,.str (sb x.t.text),.int .i64 x.t.num,.mb false 1 (mp nB x.t.names),.mb false 2 (mp j7.cells x.t.levels),.mb false 8 (mp Syntax.cells x.t.kids),.int .i64 x.t.from_,.int .i64 x.t.to]=some x:=by
 simp only[kg.vl,LR,GL,Ve,wo,GK,beq_self_eq_true,eX,jM,dL,Syntax.oQ]
 try (cases x;rfl)
theorem kg.qE(H:List kq)(x:kg):kg.of H x.cells=some x:=by rw[kg.cells_eq];exact kg.oQ H x
def kg.Ak{x:kg}(h:kg.of H cs=some x):pE H n cs x.cells:=by
 unfold kg.of at h;split at h
 ·simp only[eU,eV] at h;obtain⟨x0,h0,x1,h1,rfl⟩:=h;rw[kg.nA];exact(pE.append (pE.cons (Z7 h0) pE.nil) (Syntax.Ak h1))
 ·cases h
def kg.kH:UV kg:=⟨kg.cells,kg.of,fun _ _ _ _ h=>kg.Ak h,kg.nb⟩
def kg.row:Row kg:=⟨kg.cells,kg.of [],9,fun _ _ h=>(kg.Ak (n:=0) h).pN,kg.nb⟩
def kg.qV(xs:List kg):ql (kg.of []) (mp kg.cells xs)=some xs:=Fe (kg.qE []) xs
def kg.JH:kg.row.enc=kg.cells/\kg.row.dec=kg.of []/\kg.row.sz=9/\kg.kH.enc=kg.cells/\kg.kH.dec=kg.of:=⟨rfl,rfl,rfl,rfl,rfl⟩
attribute [go_sem] kg.vl kg.qE kg.qV kg.JH
def kg.ww:(∀(y0:Str)(y1:Syntax),(kg.mk y0 y1).name=y0)/\(∀(y0:Str)(y1:Syntax),(kg.mk y0 y1).t=y1):=⟨fun _ _=>rfl,fun _ _=>rfl⟩
attribute [go_sem] kg.ww
def kg.nbs:(∀(n:Nat)(x:kg),Go.Abs.vK n x.cells=True)/\ ∀(n:Nat)(xs:List kg),Go.Abs.MU n (mp kg.cells xs)=True:=⟨fun n x=>eq_true (kg.nb n x),fun n xs=>eq_true (qD (kg.nb n) xs)⟩
def kg.abx:(∀(ρ:Nat->Nat)(x:kg),qQ ρ x.cells=x.cells)/\ ∀(ρ:Nat->Nat)(xs:List kg),DI ρ (mp kg.cells xs)=mp kg.cells xs:=⟨fun ρ x=>rR ρ _ (kg.nb 0 x),fun ρ xs=>uQ ρ _ (qD (kg.nb 0) xs)⟩
def kg.reads:
 (∀x:kg,cellsOf (.agg x.cells)=some x.cells)/\
 (∀x:kg,l9 true 9 x.cells=some (.agg x.cells))/\
 (∀x:kg,l9 false 1 x.cells=some (.str (sb x.name)))/\
 (∀x:kg,l9 false 1 (x.cells.drop 1)=some (.int .i64 x.t.kind))/\
 (∀x:kg,l9 false 1 (x.cells.drop 2)=some (.str (sb x.t.text)))/\
 (∀x:kg,l9 false 1 (x.cells.drop 3)=some (.int .i64 x.t.num))/\
 (∀x:kg,l9 false 1 (x.cells.drop 4)=some (.mb false 1 (mp nB x.t.names)))/\
 (∀x:kg,l9 false 1 (x.cells.drop 5)=some (.mb false 2 (mp j7.cells x.t.levels)))/\
 (∀x:kg,l9 false 1 (x.cells.drop 6)=some (.mb false 8 (mp Syntax.cells x.t.kids)))/\
 (∀x:kg,l9 false 1 (x.cells.drop 7)=some (.int .i64 x.t.from_))/\
 (∀x:kg,l9 false 1 (x.cells.drop 8)=some (.int .i64 x.t.to))/\
 (∀x:kg,l9 true 8 (x.cells.drop 1)=some (.agg x.t.cells)):=
 ⟨fun x=>by simp only[cellsOf,kg.scalar,jU],
  fun x=>A7 (kg.length x),
  fun x=>by rw[kg.cells_eq];rfl,
  fun x=>by rw[kg.cells_eq];rfl,
  fun x=>by rw[kg.cells_eq];rfl,
  fun x=>by rw[kg.cells_eq];rfl,
  fun x=>by rw[kg.cells_eq];rfl,
  fun x=>by rw[kg.cells_eq];rfl,
  fun x=>by rw[kg.cells_eq];rfl,
  fun x=>by rw[kg.cells_eq];rfl,
  fun x=>by rw[kg.cells_eq];rfl,
  fun x=>by rw[kg.cells_eq];simp only[Syntax.cells_eq,List.drop_succ_cons,List.drop_zero];rfl⟩
attribute [go_sem] kg.nbs kg.abx kg.reads kg.length kg.scalar
open Go.Proofs
def tf0:
 pd eT 1=some (false,1)/\
 nF eT 1=none/\
 ou eT 1=some [.raw .nilFunc]/\
 tB eT 1=false/\
 n6 eT 1=true/\
 qj eT 1=true/\
 pd eT 3=some (false,1)/\
 nF eT 3=none/\
 ou eT 3=some [.int .i64 0]/\
 tB eT 3=false/\
 ahP eT 3=some .i64/\
 n6 eT 3=false/\
 qj eT 3=true/\
 pd eT 4=some (false,1)/\
 nF eT 4=none/\
 ou eT 4=some [.bool false]/\
 tB eT 4=false/\
 n6 eT 4=true/\
 qj eT 4=true/\
 pd eT 5=some (false,1)/\
 nF eT 5=none/\
 ou eT 5=some [.int .u8 0]/\
 tB eT 5=false/\
 ahP eT 5=some .u8/\
 n6 eT 5=false/\
 qj eT 5=true/\
 pd eT 9=some (false,1)/\
 nF eT 9=none/\
 ou eT 9=some [.str eW]/\
 tB eT 9=true/\
 ahP eT 9=none/\
 n6 eT 9=true/\
 qj eT 9=true/\
 pd eT 20=some (false,1)/\
 nF eT 20=none/\
 ou eT 20=some [.raw .nilIface]/\
 tB eT 20=false/\
 n6 eT 20=true/\
 qj eT 20=false/\
 pd eT 21=some (false,1)/\
 nF eT 21=none/\
 ou eT 21=some [.int .i32 0]/\
 tB eT 21=false/\
 ahP eT 21=some .i32/\
 n6 eT 21=false/\
 qj eT 21=true/\
 pd eT 22=some (false,1)/\
 nF eT 22=some (53,4,56)/\
 ou eT 22=some [.mb true 0 []]/\
 tB eT 22=false/\
 n6 eT 22=true/\
 qj eT 22=true/\
 pd eT 25=some (false,1)/\
 nF eT 25=some (9,1,16)/\
 ou eT 25=some [.mb true 0 []]/\
 tB eT 25=false/\
 n6 eT 25=true/\
 qj eT 25=true/\
 pd eT 26=some (false,1)/\
 nF eT 26=some (80,2,32)/\
 ou eT 26=some [.mb true 0 []]/\
 tB eT 26=false/\
 n6 eT 26=true/\
 qj eT 26=true/\
 pd eT 27=some (false,1)/\
 nF eT 27=some (29,8,120)/\
 ou eT 27=some [.mb true 0 []]/\
 tB eT 27=false/\
 n6 eT 27=true/\
 qj eT 27=true/\
 pd eT 29=some (true,8)/\
 zb eT 29=true/\
 tL eT 29 0=some (0,3)/\
 mi eT 29 0=some (0,1)/\
 tL eT 29 1=some (1,9)/\
 mi eT 29 1=some (1,1)/\
 tL eT 29 2=some (2,3)/\
 mi eT 29 2=some (2,1)/\
 tL eT 29 3=some (3,25)/\
 mi eT 29 3=some (3,1)/\
 tL eT 29 4=some (4,26)/\
 mi eT 29 4=some (4,1)/\
 tL eT 29 5=some (5,27)/\
 mi eT 29 5=some (5,1)/\
 tL eT 29 6=some (6,3)/\
 mi eT 29 6=some (6,1)/\
 tL eT 29 7=some (7,3)/\
 mi eT 29 7=some (7,1)/\
 nF eT 29=none/\
 ou eT 29=some [.int .i64 0,.str eW,.int .i64 0,.mb true 0 [],.mb true 0 [],.mb true 0 [],.int .i64 0,.int .i64 0]/\
 tB eT 29=false/\
 n6 eT 29=true/\
 qj eT 29=true/\
 pd eT 30=some (false,1)/\
 nF eT 30=none/\
 ou eT 30=some [.int .i64 0]/\
 tB eT 30=false/\
 ahP eT 30=some .i64/\
 n6 eT 30=false/\
 qj eT 30=true/\
 pd eT 39=some (false,1)/\
 nF eT 39=none/\
 ou eT 39=some [.raw .nilFunc]/\
 tB eT 39=false/\
 n6 eT 39=true/\
 qj eT 39=true/\
 pd eT 40=some (false,1)/\
 nF eT 40=some (45,3,32)/\
 ou eT 40=some [.mb true 0 []]/\
 tB eT 40=false/\
 n6 eT 40=true/\
 qj eT 40=true/\
 pd eT 45=some (true,3)/\
 zb eT 45=true/\
 tL eT 45 0=some (0,3)/\
 mi eT 45 0=some (0,1)/\
 tL eT 45 1=some (1,9)/\
 mi eT 45 1=some (1,1)/\
 tL eT 45 2=some (2,3)/\
 mi eT 45 2=some (2,1):=
 ⟨jV,jV,jV,jV,jV,jV,jV,jV,jV,jV,jV,jV,jV,jV,jV,jV,jV,jV,jV,jV,jV,jV,jV,jV,jV,jV,jV,jV,jV,jV,jV,jV,jV,jV,jV,jV,jV,jV,jV,jV,jV,jV,jV,jV,jV,jV,jV,jV,jV,jV,jV,jV,jV,jV,jV,jV,jV,jV,jV,jV,jV,jV,jV,jV,jV,jV,jV,jV,jV,jV,jV,jV,jV,jV,jV,jV,jV,jV,jV,jV,jV,jV,jV,jV,jV,jV,jV,jV,jV,jV,jV,jV,jV,jV,jV,jV,jV,jV,jV,jV,jV,jV,jV,jV,jV,jV,jV,jV,jV,jV,jV,jV,jV,jV,jV,jV,jV,jV,jV,jV⟩
def tf1:
 nF eT 45=none/\
 ou eT 45=some [.int .i64 0,.str eW,.int .i64 0]/\
 tB eT 45=false/\
 n6 eT 45=true/\
 qj eT 45=true/\
 pd eT 53=some (true,4)/\
 zb eT 53=true/\
 tL eT 53 0=some (0,25)/\
 mi eT 53 0=some (0,1)/\
 tL eT 53 1=some (1,3)/\
 mi eT 53 1=some (1,1)/\
 tL eT 53 2=some (2,3)/\
 mi eT 53 2=some (2,1)/\
 tL eT 53 3=some (3,9)/\
 mi eT 53 3=some (3,1)/\
 nF eT 53=none/\
 ou eT 53=some [.mb true 0 [],.int .i64 0,.int .i64 0,.str eW]/\
 tB eT 53=false/\
 n6 eT 53=true/\
 qj eT 53=true/\
 pd eT 66=some (true,2)/\
 zb eT 66=true/\
 tL eT 66 0=some (0,30)/\
 mi eT 66 0=some (0,1)/\
 tL eT 66 1=some (1,3)/\
 mi eT 66 1=some (1,1)/\
 nF eT 66=none/\
 ou eT 66=some [.int .i64 0,.int .i64 0]/\
 tB eT 66=false/\
 n6 eT 66=true/\
 qj eT 66=true/\
 pd eT 68=some (false,1)/\
 nF eT 68=none/\
 ou eT 68=some [.raw (.pointer none)]/\
 tB eT 68=false/\
 n6 eT 68=true/\
 qj eT 68=true/\
 pd eT 71=some (false,1)/\
 nF eT 71=none/\
 ou eT 71=some [.raw (.pointer none)]/\
 tB eT 71=false/\
 n6 eT 71=true/\
 qj eT 71=true/\
 pd eT 76=some (true,8)/\
 zb eT 76=true/\
 tL eT 76 0=some (0,40)/\
 mi eT 76 0=some (0,1)/\
 tL eT 76 1=some (1,3)/\
 mi eT 76 1=some (1,1)/\
 tL eT 76 2=some (2,3)/\
 mi eT 76 2=some (2,1)/\
 tL eT 76 3=some (3,22)/\
 mi eT 76 3=some (3,1)/\
 tL eT 76 4=some (4,25)/\
 mi eT 76 4=some (4,1)/\
 tL eT 76 5=some (5,3)/\
 mi eT 76 5=some (5,1)/\
 tL eT 76 6=some (6,3)/\
 mi eT 76 6=some (6,1)/\
 tL eT 76 7=some (7,3)/\
 mi eT 76 7=some (7,1)/\
 nF eT 76=none/\
 ou eT 76=some [.mb true 0 [],.int .i64 0,.int .i64 0,.mb true 0 [],.mb true 0 [],.int .i64 0,.int .i64 0,.int .i64 0]/\
 tB eT 76=false/\
 n6 eT 76=true/\
 qj eT 76=true/\
 pd eT 78=some (false,1)/\
 nF eT 78=some (82,2,24)/\
 ou eT 78=some [.mb true 0 []]/\
 tB eT 78=false/\
 n6 eT 78=true/\
 qj eT 78=true/\
 pd eT 80=some (true,2)/\
 zb eT 80=true/\
 tL eT 80 0=some (0,4)/\
 mi eT 80 0=some (0,1)/\
 tL eT 80 1=some (1,78)/\
 mi eT 80 1=some (1,1)/\
 nF eT 80=none/\
 ou eT 80=some [.bool false,.mb true 0 []]/\
 tB eT 80=false/\
 n6 eT 80=true/\
 qj eT 80=true/\
 pd eT 82=some (true,2)/\
 zb eT 82=true/\
 tL eT 82 0=some (0,9)/\
 mi eT 82 0=some (0,1)/\
 tL eT 82 1=some (1,3)/\
 mi eT 82 1=some (1,1)/\
 nF eT 82=none/\
 ou eT 82=some [.str eW,.int .i64 0]/\
 tB eT 82=false/\
 n6 eT 82=true/\
 qj eT 82=true/\
 pd eT 84=some (false,1)/\
 nF eT 84=none/\
 ou eT 84=some [.raw .nilFunc]/\
 tB eT 84=false/\
 n6 eT 84=true/\
 qj eT 84=true/\
 pd eT 100=some (true,3)/\
 zb eT 100=true/\
 tL eT 100 0=some (0,40)/\
 mi eT 100 0=some (0,1)/\
 tL eT 100 1=some (1,3)/\
 mi eT 100 1=some (1,1)/\
 tL eT 100 2=some (2,3)/\
 mi eT 100 2=some (2,1)/\
 nF eT 100=none/\
 ou eT 100=some [.mb true 0 [],.int .i64 0,.int .i64 0]/\
 tB eT 100=false/\
 n6 eT 100=true/\
 qj eT 100=true/\
 pd eT 102=some (true,6)/\
 zb eT 102=true/\
 tL eT 102 0=some (0,100)/\
 mi eT 102 0=some (0,3)/\
 tL eT 102 1=some (3,22)/\
 mi eT 102 1=some (3,1)/\
 tL eT 102 2=some (4,25):=
 ⟨jV,jV,jV,jV,jV,jV,jV,jV,jV,jV,jV,jV,jV,jV,jV,jV,jV,jV,jV,jV,jV,jV,jV,jV,jV,jV,jV,jV,jV,jV,jV,jV,jV,jV,jV,jV,jV,jV,jV,jV,jV,jV,jV,jV,jV,jV,jV,jV,jV,jV,jV,jV,jV,jV,jV,jV,jV,jV,jV,jV,jV,jV,jV,jV,jV,jV,jV,jV,jV,jV,jV,jV,jV,jV,jV,jV,jV,jV,jV,jV,jV,jV,jV,jV,jV,jV,jV,jV,jV,jV,jV,jV,jV,jV,jV,jV,jV,jV,jV,jV,jV,jV,jV,jV,jV,jV,jV,jV,jV,jV,jV,jV,jV,jV,jV,jV,jV,jV,jV,jV⟩
def tf2:
 mi eT 102 2=some (4,1)/\
 tL eT 102 3=some (5,3)/\
 mi eT 102 3=some (5,1)/\
 nF eT 102=none/\
 ou eT 102=some [.mb true 0 [],.int .i64 0,.int .i64 0,.mb true 0 [],.mb true 0 [],.int .i64 0]/\
 tB eT 102=false/\
 n6 eT 102=true/\
 qj eT 102=true/\
 pd eT 119=some (false,1)/\
 nF eT 119=some (148,9,136)/\
 ou eT 119=some [.mb true 0 []]/\
 tB eT 119=false/\
 n6 eT 119=true/\
 qj eT 119=true/\
 pd eT 127=some (false,1)/\
 nF eT 127=none/\
 ou eT 127=some [.raw (.pointer none)]/\
 tB eT 127=false/\
 n6 eT 127=true/\
 qj eT 127=true/\
 pd eT 144=some (false,1)/\
 nF eT 144=none/\
 ou eT 144=some [.raw (.map none)]/\
 UW eT 144=some (.bool false)/\
 tB eT 144=false/\
 n6 eT 144=true/\
 qj eT 144=true/\
 pd eT 148=some (true,9)/\
 zb eT 148=true/\
 tL eT 148 0=some (0,9)/\
 mi eT 148 0=some (0,1)/\
 tL eT 148 1=some (1,29)/\
 mi eT 148 1=some (1,8)/\
 nF eT 148=none/\
 ou eT 148=some [.str eW,.int .i64 0,.str eW,.int .i64 0,.mb true 0 [],.mb true 0 [],.mb true 0 [],.int .i64 0,.int .i64 0]/\
 tB eT 148=false/\
 n6 eT 148=true/\
 qj eT 148=true/\
 pd eT 161=some (false,1)/\
 nF eT 161=none/\
 ou eT 161=some [.raw (.pointer none)]/\
 tB eT 161=false/\
 n6 eT 161=true/\
 qj eT 161=true/\
 pd eT 164=some (true,5)/\
 zb eT 164=true/\
 tL eT 164 0=some (0,9)/\
 mi eT 164 0=some (0,1)/\
 tL eT 164 1=some (1,3)/\
 mi eT 164 1=some (1,1)/\
 tL eT 164 2=some (2,144)/\
 mi eT 164 2=some (2,1)/\
 tL eT 164 3=some (3,144)/\
 mi eT 164 3=some (3,1)/\
 tL eT 164 4=some (4,144)/\
 mi eT 164 4=some (4,1)/\
 nF eT 164=none/\
 ou eT 164=some [.str eW,.int .i64 0,.raw (.map none),.raw (.map none),.raw (.map none)]/\
 tB eT 164=false/\
 n6 eT 164=true/\
 qj eT 164=true/\
 pd eT 165=some (false,1)/\
 nF eT 165=some (25,1,24)/\
 ou eT 165=some [.mb true 0 []]/\
 tB eT 165=false/\
 n6 eT 165=true/\
 qj eT 165=true/\
 pd eT 166=some (false,1)/\
 nF eT 166=none/\
 ou eT 166=some [.raw .nilFunc]/\
 tB eT 166=false/\
 n6 eT 166=true/\
 qj eT 166=true/\
 pd eT 167=some (true,4)/\
 ajo eT 167=some (4,1)/\
 zb eT 167=true/\
 mi eT 167 0=some (0,1)/\
 mi eT 167 1=some (1,1)/\
 mi eT 167 2=some (2,1)/\
 mi eT 167 3=some (3,1)/\
 nF eT 167=none/\
 ou eT 167=some [.raw .nilFunc,.raw .nilFunc,.raw .nilFunc,.raw .nilFunc]/\
 tB eT 167=false/\
 n6 eT 167=true/\
 qj eT 167=true/\
 pd eT 195=some (false,1)/\
 nF eT 195=none/\
 ou eT 195=some [.raw (.pointer none)]/\
 tB eT 195=false/\
 n6 eT 195=true/\
 qj eT 195=true/\
 pd eT 198=some (false,1)/\
 nF eT 198=none/\
 ou eT 198=some [.raw (.pointer none)]/\
 tB eT 198=false/\
 n6 eT 198=true/\
 qj eT 198=true/\
 pd eT 200=some (true,3)/\
 zb eT 200=true/\
 tL eT 200 0=some (0,195)/\
 mi eT 200 0=some (0,1)/\
 tL eT 200 1=some (1,27)/\
 mi eT 200 1=some (1,1)/\
 tL eT 200 2=some (2,3)/\
 mi eT 200 2=some (2,1)/\
 nF eT 200=none/\
 ou eT 200=some [.raw (.pointer none),.mb true 0 [],.int .i64 0]/\
 tB eT 200=false/\
 n6 eT 200=true/\
 qj eT 200=true/\
 pd eT 202=some (true,0)/\
 zb eT 202=true/\
 nF eT 202=none/\
 ou eT 202=some []/\
 tB eT 202=false/\
 n6 eT 202=true/\
 qj eT 202=true/\
 pd eT 206=some (false,1)/\
 nF eT 206=none/\
 ou eT 206=some [.raw (.pointer none)]:=
 ⟨jV,jV,jV,jV,jV,jV,jV,jV,jV,jV,jV,jV,jV,jV,jV,jV,jV,jV,jV,jV,jV,jV,jV,jV,jV,jV,jV,jV,jV,jV,jV,jV,jV,jV,jV,jV,jV,jV,jV,jV,jV,jV,jV,jV,jV,jV,jV,jV,jV,jV,jV,jV,jV,jV,jV,jV,jV,jV,jV,jV,jV,jV,jV,jV,jV,jV,jV,jV,jV,jV,jV,jV,jV,jV,jV,jV,jV,jV,jV,jV,jV,jV,jV,jV,jV,jV,jV,jV,jV,jV,jV,jV,jV,jV,jV,jV,jV,jV,jV,jV,jV,jV,jV,jV,jV,jV,jV,jV,jV,jV,jV,jV,jV,jV,jV,jV,jV,jV,jV,jV⟩
def tf3:
 tB eT 206=false/\
 n6 eT 206=true/\
 qj eT 206=true/\
 pd eT 208=some (true,4)/\
 zb eT 208=true/\
 tL eT 208 0=some (0,22)/\
 mi eT 208 0=some (0,1)/\
 tL eT 208 1=some (1,27)/\
 mi eT 208 1=some (1,1)/\
 tL eT 208 2=some (2,3)/\
 mi eT 208 2=some (2,1)/\
 tL eT 208 3=some (3,4)/\
 mi eT 208 3=some (3,1)/\
 nF eT 208=none/\
 ou eT 208=some [.mb true 0 [],.mb true 0 [],.int .i64 0,.bool false]/\
 tB eT 208=false/\
 n6 eT 208=true/\
 qj eT 208=true/\
 pd eT 212=some (true,256)/\
 ajo eT 212=some (256,1)/\
 zb eT 212=true/\
 nF eT 212=none/\
 tB eT 212=false/\
 n6 eT 212=true/\
 qj eT 212=true/\
 pd eT 215=some (false,1)/\
 nF eT 215=none/\
 ou eT 215=some [.raw .nilFunc]/\
 tB eT 215=false/\
 n6 eT 215=true/\
 qj eT 215=true/\
 pd eT 220=some (true,256)/\
 ajo eT 220=some (256,1)/\
 zb eT 220=true/\
 nF eT 220=none/\
 tB eT 220=false/\
 n6 eT 220=true/\
 qj eT 220=true/\
 pd eT 229=some (false,1)/\
 nF eT 229=none/\
 ou eT 229=some [.raw (.map none)]/\
 UW eT 229=some (.agg [.mb true 0 [],.int .i64 0,.int .i64 0,.str eW])/\
 tB eT 229=false/\
 n6 eT 229=true/\
 qj eT 229=true/\
 pd eT 231=some (true,4)/\
 zb eT 231=true/\
 tL eT 231 0=some (0,229)/\
 mi eT 231 0=some (0,1)/\
 tL eT 231 1=some (1,229)/\
 mi eT 231 1=some (1,1)/\
 tL eT 231 2=some (2,144)/\
 mi eT 231 2=some (2,1)/\
 tL eT 231 3=some (3,3)/\
 mi eT 231 3=some (3,1)/\
 nF eT 231=none/\
 ou eT 231=some [.raw (.map none),.raw (.map none),.raw (.map none),.int .i64 0]/\
 tB eT 231=false/\
 n6 eT 231=true/\
 qj eT 231=true/\
 pd eT 279=some (false,1)/\
 nF eT 279=none/\
 ou eT 279=some [.raw (.pointer none)]/\
 tB eT 279=false/\
 n6 eT 279=true/\
 qj eT 279=true/\
 tbl eT 4=true/\
 amq eT 20=true:=
 ⟨jV,jV,jV,jV,jV,jV,jV,jV,jV,jV,jV,jV,jV,jV,jV,jV,jV,jV,jV,jV,jV,jV,jV,jV,jV,jV,jV,jV,jV,jV,jV,jV,jV,jV,jV,jV,jV,jV,jV,jV,jV,jV,jV,jV,jV,jV,jV,jV,jV,jV,jV,jV,jV,jV,jV,jV,jV,jV,jV,jV,jV,jV,jV,jV,jV,jV,jV,jV⟩
def mixed:Tryz.prog.follows .mixedOrders=true:=jV
attribute [go_sem] tf0 tf1 tf2 tf3
open Go.Proofs
set_option maxRecDepth 100000
def kf.aBv(a b:kf):agI eT 82 a.cells b.cells=True:=by
 refine eq_true (anG (jV) (jV) (jV) ?_);rw[kf.cells_eq,kf.cells_eq];exact⟨⟨by decide,jV,jV,by dsimp only;kernel_rfl⟩,⟨by decide,jV,jV,rfl,.i64,jV⟩,trivial⟩
def kf.eqB(a b:kf):Go.Abs.eqB a.cells b.cells=((a.name==b.name)&&(a.plus==b.plus)):=by
 rw[kf.cells_eq,kf.cells_eq];simp only[Go.Abs.eqB,eq1,PD,Bool.and_true]
attribute [go_sem] kf.aBv kf.eqB
def kI.sc(x:kI):x.cells.map sc1=x.cells:=by
 rw[kI.cells_eq];rfl
attribute [go_sem] kI.sc
def jY.aBw: ∀x y:jY,((lM jY.kH)).enc x=((lM jY.kH)).enc y->x=y:=fun x y h=>by
 have h2:jY.cells x=jY.cells y:=AV.agg.inj h;have h3:jY.of [] x.cells=jY.of [] y.cells:=by rw[h2]
 rw[jY.qE,jY.qE] at h3;exact Option.some.inj h3
def jY.aC7:(∀xs,Y7 (lM jY.kH) (.map (mp (KK (lM jY.kH)) xs))=some xs)/\Y7 (lM jY.kH) (.map [])=some []/\Y7 (lM jY.kH) (.map (mp DG []))=some []:=as9 jY.aBw
def jY.aBx(l:Nat)(s:Str)(v:jY)(xs:List (Str×jY)):Ad l (sb s) (.agg v.cells) (some (.map (mp (KK (lM jY.kH)) xs)))=some {val:= .any,rd:=[l],up:=[(l,.map (mp (KK (lM jY.kH)) (yA s v xs)))]}:=by
 have:=awA (t:=(lM jY.kH)) (l:=l) (s:=s) (v:=v) (xs:=xs)
 rwa [show((lM jY.kH)).enc v= .agg v.cells from rfl] at this
attribute [go_sem] jY.aC7 jY.aBx
abbrev Tc:Type:=(jX×Unit)
abbrev T6:Type:=(Tc×Unit)
abbrev Td:Type:=(List (Str×jY))
abbrev T9:Type:=(List (Str×Bool))
abbrev T7:Type:=((Int×Unit)×(Td×(Td×(T9×Unit))))
abbrev T8:Type:=(kr×Unit)
abbrev Ta:Type:=(((List Syntax)×(Int×Unit))×T7)
abbrev Tb:Type:=(PR (T6×(Syntax×Unit)) (T6×T8))
abbrev Te:Type:=(PR ((Tc×((Syntax×Unit)×Unit))×Unit) ((Tc×((Syntax×Unit)×Unit))×T8))
abbrev Tf:Type:=(Unit×((Syntax×Unit)×((Int×Unit)×((Int×Unit)×Ta))))
abbrev Tg:Type:=((Syntax×Unit)×((Int×Unit)×((Int×Unit)×Unit)))
abbrev Th:Type:=(PR ((Tc×(Unit×(Unit×((List kf)×Unit))))×Unit) ((Tc×(Unit×(Unit×((List kf)×Unit))))×T8))
abbrev Ti:Type:=((Str×(Int×Unit))×(T9×(T9×(T9×Unit))))
abbrev Tj:Type:=(List j7)
abbrev Tl:Type:=(PR (Ta×(Syntax×(Int×Unit))) (Ta×(Unit×Unit)))
abbrev Tm:Type:=(PR ((Unit×(Unit×((List kf)×T6)))×Unit) ((Unit×(Unit×((List kf)×T6)))×T8))
abbrev Tn:Type:=((List Str)×Unit)
abbrev To:Type:=(PR (Ta×(Syntax×Unit)) (Ta×(Unit×Unit)))
abbrev Tp:Type:=((Unit×Int)×((Syntax×Unit)×((Syntax×Unit)×Unit)))
abbrev Tx:Type:=(List kg)
abbrev Tq:Type:=(PR (T6×(Tx×Unit)) (T6×T8))
abbrev Ts:Type:=(PR (T6×Unit) (T6×T8))
abbrev Tt:Type:=(PR ((Tc×(Unit×(Unit×(Tj×Unit))))×Unit) ((Tc×(Unit×(Unit×(Tj×Unit))))×T8))
abbrev Tu:Type:=((List Syntax)×Unit)
abbrev Tv:Type:=(PR (T6×((List kf)×Unit)) (T6×T8))
abbrev Tw:Type:=((Unit×Int)×(Unit×(T9×Unit)))
abbrev Tz:Type:=(Ti×(Int×(Int×(Int×Unit))))
abbrev TA:Type:=(PR ((Unit×(Unit×(Tj×T6)))×Unit) ((Unit×(Unit×(Tj×T6)))×T8))
abbrev TB:Type:=(T6×(Str×Unit))
abbrev TC:Type:=(PR (T6×(j7×Unit)) (T6×T8))
abbrev TD:Type:=(PR (T6×Tn) (T6×T8))
abbrev TE:Type:=(PR (T6×Tu) (T6×T8))
abbrev TG:Type:=((List kI)×Int×Int)
abbrev TH:Type:=(PR (Unit×(ku×Unit)) (Unit×T8))
abbrev TI:Type:=((Unit×T6)×Unit)
abbrev TJ:Type:=(Syntax×Int×Int)
abbrev TK:Type:=(PR (Unit×Unit) (T7×Unit))
abbrev TL:Type:=(PR (T7×(Str×Tn)) (T7×(Str×Tn)))
abbrev TM:Type:=(T7×(Int×Unit))
abbrev TN:Type:=(PR (T6×(Int×Unit)) (T6×T8))
abbrev TO:Type:=(PR (T6×(Tj×Unit)) (T6×T8))
abbrev TP:Type:=((Tj×Unit)×Unit)
abbrev TQ:Type:=(Ta×(Str×(Bool×Unit)))
abbrev TR:Type:=(Unit×((Syntax×Unit)×((Syntax×Unit)×Unit)))
abbrev TS:Type:=(PR (T6×Unit) (Unit×T8))
end Go.Abs
