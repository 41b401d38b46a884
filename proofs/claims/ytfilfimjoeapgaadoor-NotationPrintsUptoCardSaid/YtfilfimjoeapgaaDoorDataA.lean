/- A part of the proof: the data of the program. -/
import Derived.Test.YtfilfimjoeapgaaDoorCoreC
import Derived.Test.YtfilfimjoeapgaaDoorCoreD
import Derived.Test.YtfilfimjoeapgaaDoorProg
import Derived.KernelRfl
set_option linter.all false
open Option renaming bind_eq_some_iff → gX
open Option.some renaming injEq → gY
open ByteArray renaming empty → gZ
open Bool renaming true_or → hJ
namespace Go.Abs
set_option maxRecDepth 10000
theorem YF (n:Nat) (x:Int):nbL n (KK x):=⟨trivial,trivial⟩
theorem ucell_nb (n:Nat) (x:Int):nbL n (Ry x):=⟨trivial,trivial⟩
theorem NH (n:Nat) (x:Str):nbL n (pP x):=⟨trivial,trivial⟩
theorem YG (n:Nat) (x:Bool):nbL n (Nr x):=⟨trivial,trivial⟩
theorem uU {α:Type} {f:α→List AV} {n:Nat} (h: ∀x,nbL n (f x)): ∀xs:List α,Gq n (mp f xs)
 |[]=>by rw[uq];trivial
 |x::xs=>by have:=uU h xs;rw[uq] at this ⊢;exact ⟨h x,this⟩
theorem EG {cs:List AV} {n:Nat} (h:cs.length=n):qF true n cs=some (.agg cs):=by
 simp only[qF,←h,Nat.le_refl,if_true,List.take_length]
theorem cell_nbs:(∀ (n:Nat) (xs:List Int),Gq n (mp KK xs)=True)∧(∀ (n:Nat) (xs:List Int),Gq n (mp Ry xs)=True)∧(∀ (n:Nat) (xs:List Str),Gq n (mp pP xs)=True)∧ ∀ (n:Nat) (xs:List Bool),Gq n (mp Nr xs)=True:=⟨fun n xs=>eq_true (uU (YF n) xs),fun n xs=>eq_true (uU (ucell_nb n) xs),fun n xs=>eq_true (uU (NH n) xs),fun n xs=>eq_true (uU (YG n) xs)⟩
theorem cell_rens:(∀ (ρ:Nat→Nat) (xs:List Int),BA ρ (mp KK xs)=mp KK xs)∧(∀ (ρ:Nat→Nat) (xs:List Str),BA ρ (mp pP xs)=mp pP xs)∧ ∀ (ρ:Nat→Nat) (xs:List Bool),BA ρ (mp Nr xs)=mp Nr xs:=⟨fun ρ xs=>wN ρ _ (uU (YF 0) xs),fun ρ xs=>wN ρ _ (uU (NH 0) xs),fun ρ xs=>wN ρ _ (uU (YG 0) xs)⟩
attribute [go_sem] KK pP Nr Ry cell_nbs cell_rens
theorem vk {α β:Type} {f:β→Option α} {g:α→β} (h: ∀x,f (g x)=some x): ∀ (xs:List α) (i:Nat) (r:β),mapO f ((mp g xs).set i r)=bif decide (i<xs.length) then (f r).bind fun y=>some (xs.set i y) else some xs:=by
 intro xs
 rw[uq]
 induction xs with
 |nil=>intro i r;simp [mapO]
 |cons x xs ih=>
  intro i r
  cases i with
  |zero=>
   simp only[List.map_cons,List.set_cons_zero,mapO,Rv h,List.length_cons,Nat.zero_lt_succ,decide_true,cond_true]
   cases f r<;>rfl
  |succ i=>
   simp only[List.map_cons,List.set_cons_succ,mapO,h,ih i r,List.length_cons,Nat.succ_lt_succ_iff,Option.bind_some]
   by_cases hi:i<xs.length
   ·simp only[hi,decide_true,cond_true];cases f r<;>rfl
   ·simp only[hi,decide_false,cond_false];rfl
theorem mapO_set1:(∀ (xs:List Int) (i:Nat) (r:List AV),mapO (XL .i64) ((mp KK xs).set i r)=bif decide (i<xs.length) then (XL .i64 r).bind fun y=>some (xs.set i y) else some xs)∧(∀ (xs:List Bool) (i:Nat) (r:List AV),mapO dB1 ((mp Nr xs).set i r)=bif decide (i<xs.length) then (dB1 r).bind fun y=>some (xs.set i y) else some xs)∧(∀ (xs:List Str) (i:Nat) (r:List AV),mapO dS1 ((mp pP xs).set i r)=bif decide (i<xs.length) then (dS1 r).bind fun y=>some (xs.set i y) else some xs):=⟨vk fun x=>by simp [XL,KK,dI],vk fun x=>rfl,vk fun x=>rfl⟩
attribute [go_sem] mapO_set1
theorem UR {α β:Type} {f:β→Option α} {z:β}: ∀n:Nat,mapO f (List.replicate n z)=bif n==0 then some [] else (f z).bind fun y=>some (List.replicate n y)
 |0=>rfl
 |n+1=>by
  simp only[List.replicate_succ,mapO,UR n]
  cases f z with
  |none=>rfl
  |some y=>cases n<;>rfl
attribute [go_sem] UR
theorem lst_of {β:Type} {t:Bool} {z k:Nat} {r vV:List (List AV)} {o:Option β} {x:β} (hok:o=some x→JD r vV) (h:(bif Fm z k r then o else none)=some x):Sub (.nY t z r) (.nY false k vV):=by
 cases hs:Fm z k r with
 |false=>simp [hs] at h
 |true=>rw[hs] at h;exact JG hs (hok h)
structure Notation where
 parts:List Str
 level:Int
 assoc:Int
 target:Str
def Notation.cells (x:Notation):List AV:=[.nY false 1 (mp pP x.parts),.int .i64 x.level,.int .i64 x.assoc,.str (sb x.target)]
theorem Notation.sM (x:Notation):x.cells=[.nY false 1 (mp pP x.parts),.int .i64 x.level,.int .i64 x.assoc,.str (sb x.target)]:=rfl
theorem Notation.cells_eq (x:Notation):x.cells=[.nY false 1 (mp pP x.parts),.int .i64 x.level,.int .i64 x.assoc,.str (sb x.target)]:=rfl
attribute [irreducible] Notation.cells
theorem Notation.length (x:Notation):x.cells.length=4:=by rw[Notation.cells_eq];rfl
theorem Notation.scalar (x:Notation):x.cells.all AV.scalar=true:=by rw[Notation.cells_eq];rfl
theorem Notation.nb (n:Nat) (x:Notation):nbL n x.cells:=by
 rw[Notation.sM]
 exact ⟨uU (NH n) _,trivial,trivial,trivial,trivial⟩
def Notation.of (H:List AObj):List AV→Option Notation
 |[c0,c1,c2,c3]=>(dL sD H c0).bind fun x0=>(dI .i64 c1).bind fun x1=>(dI .i64 c2).bind fun x2=>(dS c3).bind fun x3=>some (.mk x0 x1 x2 x3)
 |_=>none
theorem Notation.BE {H:List AObj} {c0 c1 c2 c3:AV}:Notation.of H [c0,c1,c2,c3]=(dL sD H c0).bind fun x0=>(dI .i64 c1).bind fun x1=>(dI .i64 c2).bind fun x2=>(dS c3).bind fun x3=>some (.mk x0 x1 x2 x3):=rfl
theorem Notation.vF (H:List AObj) (x:Notation):Notation.of H [.nY false 1 (mp pP x.parts),.int .i64 x.level,.int .i64 x.assoc,.str (sb x.target)]=some x:=by
 simp only[Notation.BE,KJ,HG,Px,AG,Fm,beq_self_eq_true,hJ,cond_true,dL,Fo,Rz]
 try (cases x;rfl)
theorem Notation.uJ (H:List AObj) (x:Notation):Notation.of H x.cells=some x:=by rw[Notation.cells_eq];exact Notation.vF H x
theorem Notation.Fu {H:List AObj} {n:Nat} {cs:List AV} {x:Notation} (h:Notation.of H cs=some x):tX H n cs x.cells:=by
 unfold Notation.of at h
 split at h
 ·simp only[gX,gY] at h
  obtain ⟨x0,h0,x1,h1,x2,h2,x3,h3,rfl⟩:=h
  rw[Notation.sM]
  exact (tX.cons (I9 h0) (tX.cons (Gc h1) (tX.cons (Gc h2) (tX.cons (Rx h3) tX.nil))))
 ·cases h
def Notation.cel:LO Notation:=⟨Notation.cells,Notation.of,fun _ _ _ _ h=>Notation.Fu h,Notation.nb⟩
def Notation.row:Row Notation:=⟨Notation.cells,Notation.of [],4,fun _ _ h=>(Notation.Fu (n:=0) h).toSub,Notation.nb⟩
theorem Notation.ud (xs:List Notation):mapO (Notation.of []) (mp Notation.cells xs)=some xs:=CK (Notation.uJ []) xs
theorem Notation.vk (xs:List Notation) (i:Nat) (r:List AV):mapO (Notation.of []) ((mp Notation.cells xs).set i r)=bif decide (i<xs.length) then (Notation.of [] r).bind fun y=>some (xs.set i y) else some xs:=Go.Abs.vk (Notation.uJ []) xs i r
attribute [go_sem low] Notation.vk
theorem Notation.KO:Notation.row.enc=Notation.cells∧Notation.row.dec=Notation.of []∧Notation.row.sz=4∧Notation.cel.enc=Notation.cells∧Notation.cel.dec=Notation.of:=⟨rfl,rfl,rfl,rfl,rfl⟩
theorem Notation.eta (x:Notation):Notation.mk x.parts x.level x.assoc x.target=x:=by cases x;rfl
attribute [go_sem] Notation.BE Notation.uJ Notation.ud Notation.KO Notation.eta
theorem Notation.prj:(∀ (y0:List Str) (y1:Int) (y2:Int) (y3:Str),(Notation.mk y0 y1 y2 y3).parts=y0)∧(∀ (y0:List Str) (y1:Int) (y2:Int) (y3:Str),(Notation.mk y0 y1 y2 y3).level=y1)∧(∀ (y0:List Str) (y1:Int) (y2:Int) (y3:Str),(Notation.mk y0 y1 y2 y3).assoc=y2)∧(∀ (y0:List Str) (y1:Int) (y2:Int) (y3:Str),(Notation.mk y0 y1 y2 y3).target=y3):=⟨fun _ _ _ _=>rfl,fun _ _ _ _=>rfl,fun _ _ _ _=>rfl,fun _ _ _ _=>rfl⟩
attribute [go_sem] Notation.prj
theorem Notation.nbs:(∀ (n:Nat) (x:Notation),Go.Abs.nbL n x.cells=True)∧ ∀ (n:Nat) (xs:List Notation),Go.Abs.Gq n (mp Notation.cells xs)=True:=⟨fun n x=>eq_true (Notation.nb n x),fun n xs=>eq_true (uU (Notation.nb n) xs)⟩
theorem Notation.RZ:(∀ (ρ:Nat→Nat) (x:Notation),renL ρ x.cells=x.cells)∧ ∀ (ρ:Nat→Nat) (xs:List Notation),BA ρ (mp Notation.cells xs)=mp Notation.cells xs:=⟨fun ρ x=>uG ρ _ (Notation.nb 0 x),fun ρ xs=>wN ρ _ (uU (Notation.nb 0) xs)⟩
theorem Notation.vw (H:List AObj) (x:Notation):N6 H x.cells=some (x.cells,[]):=ED H _ (Notation.nb 0 x)
attribute [go_sem] Notation.vw
theorem Notation.Pq (low:Nat) (H:List AObj) (x:Notation):Nf low H x.cells=x.cells:=AF low H _ (Notation.nb 0 x)
theorem Notation.rpv (l:Nat) (ds:List AV) (x:Notation):x.cells.map (rpV l ds)=x.cells:=CZ _ (Notation.nb 0 x)
attribute [go_sem] Notation.rpv
theorem Notation.tk:(∀x:Notation,List.take 4 x.cells=x.cells)∧ ∀x:Notation,List.drop 4 x.cells=[]:=⟨fun x=>by rw[Notation.cells_eq];rfl,fun x=>by rw[Notation.cells_eq];rfl⟩
attribute [go_sem] Notation.tk
theorem Notation.reads:
 (∀x:Notation,cellsOf (.agg x.cells)=some x.cells)∧
 (∀x:Notation,qF true 4 x.cells=some (.agg x.cells))∧
 (∀x:Notation,qF false 1 x.cells=some (.nY false 1 (mp pP x.parts)))∧
 (∀x:Notation,qF false 1 (x.cells.drop 1)=some (.int .i64 x.level))∧
 (∀x:Notation,qF false 1 (x.cells.drop 2)=some (.int .i64 x.assoc))∧
 (∀x:Notation,qF false 1 (x.cells.drop 3)=some (.str (sb x.target))):=
 ⟨fun x=>by simp only[cellsOf,Notation.scalar,if_true],
  fun x=>EG (Notation.length x),
  fun x=>by rw[Notation.cells_eq];rfl,
  fun x=>by rw[Notation.cells_eq];rfl,
  fun x=>by rw[Notation.cells_eq];rfl,
  fun x=>by rw[Notation.cells_eq];rfl⟩
theorem Notation.R0 (x:Notation) (o:Nat) (xs:List AV):splice x.cells o xs=splice [.nY false 1 (mp pP x.parts),.int .i64 x.level,.int .i64 x.assoc,.str (sb x.target)] o xs:=by rw[Notation.cells_eq]
theorem Notation.KP (x:Notation) (o:Nat) (c:AV) (cs:List AV):splice (c::cs) o x.cells=splice (c::cs) o [.nY false 1 (mp pP x.parts),.int .i64 x.level,.int .i64 x.assoc,.str (sb x.target)]:=by rw[Notation.cells_eq]
theorem Notation.app (x:Notation) (l:List AV):x.cells++l=(.nY false 1 (mp pP x.parts):AV)::(.int .i64 x.level:AV)::(.int .i64 x.assoc:AV)::(.str (sb x.target):AV)::l:=by rw[Notation.cells_eq];rfl
theorem Notation.cns (x:Notation) (c:AV):c::x.cells=[c,.nY false 1 (mp pP x.parts),.int .i64 x.level,.int .i64 x.assoc,.str (sb x.target)]:=by rw[Notation.cells_eq]
attribute [go_sem] Notation.app Notation.cns
attribute [go_sem] Notation.nbs Notation.RZ Notation.Pq Notation.reads Notation.length Notation.scalar
attribute [go_sem low] Notation.R0 Notation.KP
structure mX where
 name:Str
 plus:Int
def mX.cells (x:mX):List AV:=[.str (sb x.name),.int .i64 x.plus]
theorem mX.sM (x:mX):x.cells=[.str (sb x.name),.int .i64 x.plus]:=rfl
theorem mX.cells_eq (x:mX):x.cells=[.str (sb x.name),.int .i64 x.plus]:=rfl
attribute [irreducible] mX.cells
theorem mX.length (x:mX):x.cells.length=2:=by rw[mX.cells_eq];rfl
theorem mX.scalar (x:mX):x.cells.all AV.scalar=true:=by rw[mX.cells_eq];rfl
theorem mX.nb (n:Nat) (x:mX):nbL n x.cells:=by
 rw[mX.sM]
 exact ⟨trivial,trivial,trivial⟩
def mX.of (H:List AObj):List AV→Option mX
 |[c0,c1]=>(dS c0).bind fun x0=>(dI .i64 c1).bind fun x1=>some (.mk x0 x1)
 |_=>none
theorem mX.BE {H:List AObj} {c0 c1:AV}:mX.of H [c0,c1]=(dS c0).bind fun x0=>(dI .i64 c1).bind fun x1=>some (.mk x0 x1):=rfl
theorem mX.vF (H:List AObj) (x:mX):mX.of H [.str (sb x.name),.int .i64 x.plus]=some x:=by
 simp only[mX.BE,KJ,HG,Px,AG,Fm,beq_self_eq_true,hJ,cond_true,dL]
 try (cases x;rfl)
theorem mX.uJ (H:List AObj) (x:mX):mX.of H x.cells=some x:=by rw[mX.cells_eq];exact mX.vF H x
theorem mX.Fu {H:List AObj} {n:Nat} {cs:List AV} {x:mX} (h:mX.of H cs=some x):tX H n cs x.cells:=by
 unfold mX.of at h
 split at h
 ·simp only[gX,gY] at h
  obtain ⟨x0,h0,x1,h1,rfl⟩:=h
  rw[mX.sM]
  exact (tX.cons (Rx h0) (tX.cons (Gc h1) tX.nil))
 ·cases h
def mX.cel:LO mX:=⟨mX.cells,mX.of,fun _ _ _ _ h=>mX.Fu h,mX.nb⟩
def mX.row:Row mX:=⟨mX.cells,mX.of [],2,fun _ _ h=>(mX.Fu (n:=0) h).toSub,mX.nb⟩
theorem mX.ud (xs:List mX):mapO (mX.of []) (mp mX.cells xs)=some xs:=CK (mX.uJ []) xs
theorem mX.vk (xs:List mX) (i:Nat) (r:List AV):mapO (mX.of []) ((mp mX.cells xs).set i r)=bif decide (i<xs.length) then (mX.of [] r).bind fun y=>some (xs.set i y) else some xs:=Go.Abs.vk (mX.uJ []) xs i r
attribute [go_sem low] mX.vk
theorem mX.KO:mX.row.enc=mX.cells∧mX.row.dec=mX.of []∧mX.row.sz=2∧mX.cel.enc=mX.cells∧mX.cel.dec=mX.of:=⟨rfl,rfl,rfl,rfl,rfl⟩
theorem mX.eta (x:mX):mX.mk x.name x.plus=x:=by cases x;rfl
attribute [go_sem] mX.BE mX.uJ mX.ud mX.KO mX.eta
theorem mX.prj:(∀ (y0:Str) (y1:Int),(mX.mk y0 y1).name=y0)∧(∀ (y0:Str) (y1:Int),(mX.mk y0 y1).plus=y1):=⟨fun _ _=>rfl,fun _ _=>rfl⟩
attribute [go_sem] mX.prj
theorem mX.nbs:(∀ (n:Nat) (x:mX),Go.Abs.nbL n x.cells=True)∧ ∀ (n:Nat) (xs:List mX),Go.Abs.Gq n (mp mX.cells xs)=True:=⟨fun n x=>eq_true (mX.nb n x),fun n xs=>eq_true (uU (mX.nb n) xs)⟩
theorem mX.RZ:(∀ (ρ:Nat→Nat) (x:mX),renL ρ x.cells=x.cells)∧ ∀ (ρ:Nat→Nat) (xs:List mX),BA ρ (mp mX.cells xs)=mp mX.cells xs:=⟨fun ρ x=>uG ρ _ (mX.nb 0 x),fun ρ xs=>wN ρ _ (uU (mX.nb 0) xs)⟩
theorem mX.vw (H:List AObj) (x:mX):N6 H x.cells=some (x.cells,[]):=ED H _ (mX.nb 0 x)
attribute [go_sem] mX.vw
theorem mX.Pq (low:Nat) (H:List AObj) (x:mX):Nf low H x.cells=x.cells:=AF low H _ (mX.nb 0 x)
theorem mX.rpv (l:Nat) (ds:List AV) (x:mX):x.cells.map (rpV l ds)=x.cells:=CZ _ (mX.nb 0 x)
attribute [go_sem] mX.rpv
theorem mX.tk:(∀x:mX,List.take 2 x.cells=x.cells)∧ ∀x:mX,List.drop 2 x.cells=[]:=⟨fun x=>by rw[mX.cells_eq];rfl,fun x=>by rw[mX.cells_eq];rfl⟩
attribute [go_sem] mX.tk
theorem mX.reads:
 (∀x:mX,cellsOf (.agg x.cells)=some x.cells)∧
 (∀x:mX,qF true 2 x.cells=some (.agg x.cells))∧
 (∀x:mX,qF false 1 x.cells=some (.str (sb x.name)))∧
 (∀x:mX,qF false 1 (x.cells.drop 1)=some (.int .i64 x.plus)):=
 ⟨fun x=>by simp only[cellsOf,mX.scalar,if_true],
  fun x=>EG (mX.length x),
  fun x=>by rw[mX.cells_eq];rfl,
  fun x=>by rw[mX.cells_eq];rfl⟩
theorem mX.R0 (x:mX) (o:Nat) (xs:List AV):splice x.cells o xs=splice [.str (sb x.name),.int .i64 x.plus] o xs:=by rw[mX.cells_eq]
theorem mX.KP (x:mX) (o:Nat) (c:AV) (cs:List AV):splice (c::cs) o x.cells=splice (c::cs) o [.str (sb x.name),.int .i64 x.plus]:=by rw[mX.cells_eq]
theorem mX.app (x:mX) (l:List AV):x.cells++l=(.str (sb x.name):AV)::(.int .i64 x.plus:AV)::l:=by rw[mX.cells_eq];rfl
theorem mX.cns (x:mX) (c:AV):c::x.cells=[c,.str (sb x.name),.int .i64 x.plus]:=by rw[mX.cells_eq]
attribute [go_sem] mX.app mX.cns
attribute [go_sem] mX.nbs mX.RZ mX.Pq mX.reads mX.length mX.scalar
attribute [go_sem low] mX.R0 mX.KP
structure mT where
 hole:Bool
 atoms:List mX
def mT.cells (x:mT):List AV:=[.bool x.hole,.nY false 2 (mp mX.cells x.atoms)]
theorem mT.sM (x:mT):x.cells=[.bool x.hole,.nY false 2 (mp mX.cells x.atoms)]:=rfl
theorem mT.cells_eq (x:mT):x.cells=[.bool x.hole,.nY false 2 (mp mX.cells x.atoms)]:=rfl
attribute [irreducible] mT.cells
theorem mT.length (x:mT):x.cells.length=2:=by rw[mT.cells_eq];rfl
theorem mT.scalar (x:mT):x.cells.all AV.scalar=true:=by rw[mT.cells_eq];rfl
theorem mT.nb (n:Nat) (x:mT):nbL n x.cells:=by
 rw[mT.sM]
 exact ⟨trivial,uU (mX.nb n) _,trivial⟩
def mT.of (H:List AObj):List AV→Option mT
 |[c0,c1]=>(dB c0).bind fun x0=>(dL mX.row H c1).bind fun x1=>some (.mk x0 x1)
 |_=>none
theorem mT.BE {H:List AObj} {c0 c1:AV}:mT.of H [c0,c1]=(dB c0).bind fun x0=>(dL mX.row H c1).bind fun x1=>some (.mk x0 x1):=rfl
theorem mT.vF (H:List AObj) (x:mT):mT.of H [.bool x.hole,.nY false 2 (mp mX.cells x.atoms)]=some x:=by
 simp only[mT.BE,KJ,HG,Px,AG,Fm,beq_self_eq_true,hJ,cond_true,dL,mX.ud,mX.row]
 try (cases x;rfl)
theorem mT.uJ (H:List AObj) (x:mT):mT.of H x.cells=some x:=by rw[mT.cells_eq];exact mT.vF H x
theorem mT.Fu {H:List AObj} {n:Nat} {cs:List AV} {x:mT} (h:mT.of H cs=some x):tX H n cs x.cells:=by
 unfold mT.of at h
 split at h
 ·simp only[gX,gY] at h
  obtain ⟨x0,h0,x1,h1,rfl⟩:=h
  rw[mT.sM]
  exact (tX.cons (XK h0) (tX.cons (I9 h1) tX.nil))
 ·cases h
def mT.cel:LO mT:=⟨mT.cells,mT.of,fun _ _ _ _ h=>mT.Fu h,mT.nb⟩
def mT.row:Row mT:=⟨mT.cells,mT.of [],2,fun _ _ h=>(mT.Fu (n:=0) h).toSub,mT.nb⟩
theorem mT.ud (xs:List mT):mapO (mT.of []) (mp mT.cells xs)=some xs:=CK (mT.uJ []) xs
theorem mT.vk (xs:List mT) (i:Nat) (r:List AV):mapO (mT.of []) ((mp mT.cells xs).set i r)=bif decide (i<xs.length) then (mT.of [] r).bind fun y=>some (xs.set i y) else some xs:=Go.Abs.vk (mT.uJ []) xs i r
attribute [go_sem low] mT.vk
theorem mT.KO:mT.row.enc=mT.cells∧mT.row.dec=mT.of []∧mT.row.sz=2∧mT.cel.enc=mT.cells∧mT.cel.dec=mT.of:=⟨rfl,rfl,rfl,rfl,rfl⟩
theorem mT.eta (x:mT):mT.mk x.hole x.atoms=x:=by cases x;rfl
attribute [go_sem] mT.BE mT.uJ mT.ud mT.KO mT.eta
theorem mT.prj:(∀ (y0:Bool) (y1:List mX),(mT.mk y0 y1).hole=y0)∧(∀ (y0:Bool) (y1:List mX),(mT.mk y0 y1).atoms=y1):=⟨fun _ _=>rfl,fun _ _=>rfl⟩
attribute [go_sem] mT.prj
theorem mT.nbs:(∀ (n:Nat) (x:mT),Go.Abs.nbL n x.cells=True)∧ ∀ (n:Nat) (xs:List mT),Go.Abs.Gq n (mp mT.cells xs)=True:=⟨fun n x=>eq_true (mT.nb n x),fun n xs=>eq_true (uU (mT.nb n) xs)⟩
theorem mT.RZ:(∀ (ρ:Nat→Nat) (x:mT),renL ρ x.cells=x.cells)∧ ∀ (ρ:Nat→Nat) (xs:List mT),BA ρ (mp mT.cells xs)=mp mT.cells xs:=⟨fun ρ x=>uG ρ _ (mT.nb 0 x),fun ρ xs=>wN ρ _ (uU (mT.nb 0) xs)⟩
theorem mT.vw (H:List AObj) (x:mT):N6 H x.cells=some (x.cells,[]):=ED H _ (mT.nb 0 x)
attribute [go_sem] mT.vw
theorem mT.Pq (low:Nat) (H:List AObj) (x:mT):Nf low H x.cells=x.cells:=AF low H _ (mT.nb 0 x)
theorem mT.rpv (l:Nat) (ds:List AV) (x:mT):x.cells.map (rpV l ds)=x.cells:=CZ _ (mT.nb 0 x)
attribute [go_sem] mT.rpv
theorem mT.tk:(∀x:mT,List.take 2 x.cells=x.cells)∧ ∀x:mT,List.drop 2 x.cells=[]:=⟨fun x=>by rw[mT.cells_eq];rfl,fun x=>by rw[mT.cells_eq];rfl⟩
attribute [go_sem] mT.tk
theorem mT.reads:
 (∀x:mT,cellsOf (.agg x.cells)=some x.cells)∧
 (∀x:mT,qF true 2 x.cells=some (.agg x.cells))∧
 (∀x:mT,qF false 1 x.cells=some (.bool x.hole))∧
 (∀x:mT,qF false 1 (x.cells.drop 1)=some (.nY false 2 (mp mX.cells x.atoms))):=
 ⟨fun x=>by simp only[cellsOf,mT.scalar,if_true],
  fun x=>EG (mT.length x),
  fun x=>by rw[mT.cells_eq];rfl,
  fun x=>by rw[mT.cells_eq];rfl⟩
theorem mT.R0 (x:mT) (o:Nat) (xs:List AV):splice x.cells o xs=splice [.bool x.hole,.nY false 2 (mp mX.cells x.atoms)] o xs:=by rw[mT.cells_eq]
theorem mT.KP (x:mT) (o:Nat) (c:AV) (cs:List AV):splice (c::cs) o x.cells=splice (c::cs) o [.bool x.hole,.nY false 2 (mp mX.cells x.atoms)]:=by rw[mT.cells_eq]
theorem mT.app (x:mT) (l:List AV):x.cells++l=(.bool x.hole:AV)::(.nY false 2 (mp mX.cells x.atoms):AV)::l:=by rw[mT.cells_eq];rfl
theorem mT.cns (x:mT) (c:AV):c::x.cells=[c,.bool x.hole,.nY false 2 (mp mX.cells x.atoms)]:=by rw[mT.cells_eq]
attribute [go_sem] mT.app mT.cns
attribute [go_sem] mT.nbs mT.RZ mT.Pq mT.reads mT.length mT.scalar
attribute [go_sem low] mT.R0 mT.KP
inductive Syntax where
 |mk (kind:Int) (text:Str) (num:Int) (names:List Str) (levels:List mT) (kids:List Syntax) (from_:Int) (to:Int)
def Syntax.kind:Syntax→Int| .mk x _ _ _ _ _ _ _=>x
def Syntax.text:Syntax→Str| .mk _ x _ _ _ _ _ _=>x
def Syntax.num:Syntax→Int| .mk _ _ x _ _ _ _ _=>x
def Syntax.names:Syntax→List Str| .mk _ _ _ x _ _ _ _=>x
def Syntax.levels:Syntax→List mT| .mk _ _ _ _ x _ _ _=>x
def Syntax.kids:Syntax→List Syntax| .mk _ _ _ _ _ x _ _=>x
def Syntax.from_:Syntax→Int| .mk _ _ _ _ _ _ x _=>x
def Syntax.to:Syntax→Int| .mk _ _ _ _ _ _ _ x=>x
mutual
def Syntax.cells:Syntax→List AV
 | .mk kind text num names levels kids from_ to=>[.int .i64 kind,.str (sb text),.int .i64 num,.nY false 1 (mp pP names),.nY false 2 (mp mT.cells levels),.nY false 8 (Syntax.cellsL kids),.int .i64 from_,.int .i64 to]
def Syntax.cellsL:List Syntax→List (List AV)
 |[]=>[]
 |t::ts=>t.cells::Syntax.cellsL ts
end
theorem Syntax.cellsL_eq: ∀ts:List Syntax,Syntax.cellsL ts=mp Syntax.cells ts
 |[]=>by rw[uq];rfl
 |t::ts=>by rw[Syntax.cellsL,Syntax.cellsL_eq ts,uq,uq];rfl
theorem Syntax.sM (x:Syntax):x.cells=[.int .i64 x.kind,.str (sb x.text),.int .i64 x.num,.nY false 1 (mp pP x.names),.nY false 2 (mp mT.cells x.levels),.nY false 8 (mp Syntax.cells x.kids),.int .i64 x.from_,.int .i64 x.to]:=by
 cases x
 simp only[Syntax.cells,Syntax.cellsL_eq]
 rfl
theorem Syntax.cells_eq (x:Syntax):x.cells=[.int .i64 x.kind,.str (sb x.text),.int .i64 x.num,.nY false 1 (mp pP x.names),.nY false 2 (mp mT.cells x.levels),.nY false 8 (mp Syntax.cells x.kids),.int .i64 x.from_,.int .i64 x.to]:=by
 cases x
 simp only[Syntax.cells,Syntax.cellsL_eq,List.cons_append,List.nil_append,List.append_nil]
 rfl
attribute [irreducible] Syntax.cells
theorem Syntax.length (x:Syntax):x.cells.length=8:=by rw[Syntax.cells_eq];rfl
theorem Syntax.scalar (x:Syntax):x.cells.all AV.scalar=true:=by rw[Syntax.cells_eq];rfl
mutual
theorem Syntax.nb (n:Nat): ∀x:Syntax,nbL n x.cells
 | .mk kind text num names levels kids from_ to=>by
   rw[Syntax.sM]
   exact ⟨trivial,trivial,trivial,uU (NH n) _,uU (mT.nb n) _,Syntax.Gq n kids,trivial,trivial,trivial⟩
theorem Syntax.Gq (n:Nat): ∀ts:List Syntax,Gq n (mp Syntax.cells ts)
 |[]=>by rw[uq];trivial
 |t::ts=>by have:=Syntax.Gq n ts;rw[uq] at this ⊢;exact ⟨Syntax.nb n t,this⟩
end
mutual
def Syntax.of0:List AV→Option Syntax
 |[c0,c1,c2,c3,c4,.nY _ z5 r5,c6,c7]=>(dI .i64 c0).bind fun x0=>(dS c1).bind fun x1=>(dI .i64 c2).bind fun x2=>(dL sD [] c3).bind fun x3=>(dL mT.row [] c4).bind fun x4=>(bif Fm z5 8 r5 then Syntax.ofR r5 else none).bind fun x5=>(dI .i64 c6).bind fun x6=>(dI .i64 c7).bind fun x7=>some (.mk x0 x1 x2 x3 x4 x5 x6 x7)
 |_=>none
def Syntax.ofR:List (List AV)→Option (List Syntax)
 |[]=>some []
 |r::rs=>(Syntax.of0 r).bind fun x=>(Syntax.ofR rs).bind fun xs=>some (x::xs)
end
theorem Syntax.ofR_eq: ∀rs,Syntax.ofR rs=mapO Syntax.of0 rs
 |[]=>by simp only[Syntax.ofR,mapO]
 |r::rs=>by simp only[Syntax.ofR,mapO,Syntax.ofR_eq rs]
mutual
theorem Syntax.Ly: ∀x:Syntax,Syntax.of0 x.cells=some x
 | .mk kind text num names levels kids from_ to=>by
   rw[Syntax.cells_eq]
   show Syntax.of0 [.int .i64 kind,.str (sb text),.int .i64 num,.nY false 1 (mp pP names),.nY false 2 (mp mT.cells levels),.nY false 8 (mp Syntax.cells kids),.int .i64 from_,.int .i64 to]=_
   simp only[Syntax.of0,KJ,HG,Px,AG,Fm,beq_self_eq_true,hJ,cond_true,dL,Syntax.US kids,mT.ud,mT.row,Fo,Rz]
theorem Syntax.US: ∀xs:List Syntax,Syntax.ofR (mp Syntax.cells xs)=some xs
 |[]=>by rw[uq];simp only[List.map_nil,Syntax.ofR]
 |x::xs=>by have h:=Syntax.US xs;rw[uq] at h ⊢;simp only[List.map_cons,Syntax.ofR,Syntax.Ly x,h,AG]
end
mutual
theorem Syntax.of0_ok: ∀ (x:Syntax) (r:List AV),Syntax.of0 r=some x→zN r x.cells
 | .mk kind text num names levels kids from_ to,r,h=>by
   unfold Syntax.of0 at h
   split at h
   ·simp only[gX,gY,Syntax.mk.injEq] at h
    obtain ⟨x0,h0,x1,h1,x2,h2,x3,h3,x4,h4,x5,h5,x6,h6,x7,h7,e0,e1,e2,e3,e4,e5,e6,e7⟩:=h
    rw[e0] at h0
    rw[e1] at h1
    rw[e2] at h2
    rw[e3] at h3
    rw[e4] at h4
    rw[e5] at h5
    rw[e6] at h6
    rw[e7] at h7
    rw[Syntax.sM]
    exact (zN.cons ((Gc (H:=[]) (n:=0) h0).toSub) (zN.cons ((Rx (H:=[]) (n:=0) h1).toSub) (zN.cons ((Gc (H:=[]) (n:=0) h2).toSub) (zN.cons ((I9 (H:=[]) (n:=0) h3).toSub) (zN.cons ((I9 (H:=[]) (n:=0) h4).toSub) (zN.cons (lst_of (Syntax.ofR_ok kids _) h5) (zN.cons ((Gc (H:=[]) (n:=0) h6).toSub) (zN.cons ((Gc (H:=[]) (n:=0) h7).toSub) zN.nil))))))))
   ·cases h
theorem Syntax.ofR_ok: ∀ (xs:List Syntax) (rs:List (List AV)),Syntax.ofR rs=some xs→JD rs (mp Syntax.cells xs)
 |[],rs,h=>by
  cases rs with
  |nil=>rw[uq];exact JD.nil
  |cons r rs=>
   simp only[Syntax.ofR,gX,gY] at h
   obtain ⟨_,_,_,_,h⟩:=h
   cases h
 |x::xs,rs,h=>by
  cases rs with
  |nil=>simp only[Syntax.ofR,gY] at h;cases h
  |cons r rs=>
   simp only[Syntax.ofR,gX,gY,List.cons.injEq] at h
   obtain ⟨_,hx,_,hys,rfl,rfl⟩:=h
   have h2:=Syntax.ofR_ok _ rs hys
   rw[uq] at h2 ⊢
   exact JD.cons (Syntax.of0_ok _ r hx).subM h2
end
def Syntax.row:Row Syntax:=⟨Syntax.cells,Syntax.of0,8,fun r x h=>Syntax.of0_ok x r h,Syntax.nb⟩
theorem Syntax.ud (xs:List Syntax):mapO Syntax.of0 (mp Syntax.cells xs)=some xs:=CK Syntax.Ly xs
theorem Syntax.vk (xs:List Syntax) (i:Nat) (r:List AV):mapO Syntax.of0 ((mp Syntax.cells xs).set i r)=bif decide (i<xs.length) then (Syntax.of0 r).bind fun y=>some (xs.set i y) else some xs:=Go.Abs.vk Syntax.Ly xs i r
attribute [go_sem low] Syntax.vk
def Syntax.of (H:List AObj):List AV→Option Syntax
 |[c0,c1,c2,c3,c4,c5,c6,c7]=>(dI .i64 c0).bind fun x0=>(dS c1).bind fun x1=>(dI .i64 c2).bind fun x2=>(dL sD H c3).bind fun x3=>(dL mT.row H c4).bind fun x4=>(dL Syntax.row H c5).bind fun x5=>(dI .i64 c6).bind fun x6=>(dI .i64 c7).bind fun x7=>some (.mk x0 x1 x2 x3 x4 x5 x6 x7)
 |_=>none
theorem Syntax.BE {H:List AObj} {c0 c1 c2 c3 c4 c5 c6 c7:AV}:Syntax.of H [c0,c1,c2,c3,c4,c5,c6,c7]=(dI .i64 c0).bind fun x0=>(dS c1).bind fun x1=>(dI .i64 c2).bind fun x2=>(dL sD H c3).bind fun x3=>(dL mT.row H c4).bind fun x4=>(dL Syntax.row H c5).bind fun x5=>(dI .i64 c6).bind fun x6=>(dI .i64 c7).bind fun x7=>some (.mk x0 x1 x2 x3 x4 x5 x6 x7):=rfl
theorem Syntax.vF (H:List AObj) (x:Syntax):Syntax.of H [.int .i64 x.kind,.str (sb x.text),.int .i64 x.num,.nY false 1 (mp pP x.names),.nY false 2 (mp mT.cells x.levels),.nY false 8 (mp Syntax.cells x.kids),.int .i64 x.from_,.int .i64 x.to]=some x:=by
 simp only[Syntax.BE,KJ,HG,Px,AG,Fm,beq_self_eq_true,hJ,cond_true,dL,mT.ud,mT.row,Syntax.ud,Syntax.row,Fo,Rz]
 try (cases x;rfl)
theorem Syntax.uJ (H:List AObj) (x:Syntax):Syntax.of H x.cells=some x:=by rw[Syntax.cells_eq];exact Syntax.vF H x
theorem Syntax.Fu {H:List AObj} {n:Nat} {cs:List AV} {x:Syntax} (h:Syntax.of H cs=some x):tX H n cs x.cells:=by
 unfold Syntax.of at h
 split at h
 ·simp only[gX,gY] at h
  obtain ⟨x0,h0,x1,h1,x2,h2,x3,h3,x4,h4,x5,h5,x6,h6,x7,h7,rfl⟩:=h
  rw[Syntax.sM]
  exact (tX.cons (Gc h0) (tX.cons (Rx h1) (tX.cons (Gc h2) (tX.cons (I9 h3) (tX.cons (I9 h4) (tX.cons (I9 h5) (tX.cons (Gc h6) (tX.cons (Gc h7) tX.nil))))))))
 ·cases h
def Syntax.cel:LO Syntax:=⟨Syntax.cells,Syntax.of,fun _ _ _ _ h=>Syntax.Fu h,Syntax.nb⟩
theorem Syntax.KO:Syntax.row.enc=Syntax.cells∧Syntax.row.dec=Syntax.of0∧Syntax.row.sz=8∧Syntax.cel.enc=Syntax.cells∧Syntax.cel.dec=Syntax.of:=⟨rfl,rfl,rfl,rfl,rfl⟩
theorem Syntax.eta (x:Syntax):Syntax.mk x.kind x.text x.num x.names x.levels x.kids x.from_ x.to=x:=by cases x;rfl
attribute [go_sem] Syntax.BE Syntax.uJ Syntax.ud Syntax.KO Syntax.eta
attribute [go_sem] Syntax.of0 Syntax.Ly
attribute [go_sem] Syntax.ofR_eq
theorem Syntax.prj:(∀ (y0:Int) (y1:Str) (y2:Int) (y3:List Str) (y4:List mT) (y5:List Syntax) (y6:Int) (y7:Int),(Syntax.mk y0 y1 y2 y3 y4 y5 y6 y7).kind=y0)∧(∀ (y0:Int) (y1:Str) (y2:Int) (y3:List Str) (y4:List mT) (y5:List Syntax) (y6:Int) (y7:Int),(Syntax.mk y0 y1 y2 y3 y4 y5 y6 y7).text=y1)∧(∀ (y0:Int) (y1:Str) (y2:Int) (y3:List Str) (y4:List mT) (y5:List Syntax) (y6:Int) (y7:Int),(Syntax.mk y0 y1 y2 y3 y4 y5 y6 y7).num=y2)∧(∀ (y0:Int) (y1:Str) (y2:Int) (y3:List Str) (y4:List mT) (y5:List Syntax) (y6:Int) (y7:Int),(Syntax.mk y0 y1 y2 y3 y4 y5 y6 y7).names=y3)∧(∀ (y0:Int) (y1:Str) (y2:Int) (y3:List Str) (y4:List mT) (y5:List Syntax) (y6:Int) (y7:Int),(Syntax.mk y0 y1 y2 y3 y4 y5 y6 y7).levels=y4)∧(∀ (y0:Int) (y1:Str) (y2:Int) (y3:List Str) (y4:List mT) (y5:List Syntax) (y6:Int) (y7:Int),(Syntax.mk y0 y1 y2 y3 y4 y5 y6 y7).kids=y5)∧(∀ (y0:Int) (y1:Str) (y2:Int) (y3:List Str) (y4:List mT) (y5:List Syntax) (y6:Int) (y7:Int),(Syntax.mk y0 y1 y2 y3 y4 y5 y6 y7).from_=y6)∧(∀ (y0:Int) (y1:Str) (y2:Int) (y3:List Str) (y4:List mT) (y5:List Syntax) (y6:Int) (y7:Int),(Syntax.mk y0 y1 y2 y3 y4 y5 y6 y7).to=y7):=⟨fun _ _ _ _ _ _ _ _=>rfl,fun _ _ _ _ _ _ _ _=>rfl,fun _ _ _ _ _ _ _ _=>rfl,fun _ _ _ _ _ _ _ _=>rfl,fun _ _ _ _ _ _ _ _=>rfl,fun _ _ _ _ _ _ _ _=>rfl,fun _ _ _ _ _ _ _ _=>rfl,fun _ _ _ _ _ _ _ _=>rfl⟩
attribute [go_sem] Syntax.prj
theorem Syntax.nbs:(∀ (n:Nat) (x:Syntax),Go.Abs.nbL n x.cells=True)∧ ∀ (n:Nat) (xs:List Syntax),Go.Abs.Gq n (mp Syntax.cells xs)=True:=⟨fun n x=>eq_true (Syntax.nb n x),fun n xs=>eq_true (uU (Syntax.nb n) xs)⟩
theorem Syntax.RZ:(∀ (ρ:Nat→Nat) (x:Syntax),renL ρ x.cells=x.cells)∧ ∀ (ρ:Nat→Nat) (xs:List Syntax),BA ρ (mp Syntax.cells xs)=mp Syntax.cells xs:=⟨fun ρ x=>uG ρ _ (Syntax.nb 0 x),fun ρ xs=>wN ρ _ (uU (Syntax.nb 0) xs)⟩
theorem Syntax.vw (H:List AObj) (x:Syntax):N6 H x.cells=some (x.cells,[]):=ED H _ (Syntax.nb 0 x)
attribute [go_sem] Syntax.vw
theorem Syntax.Pq (low:Nat) (H:List AObj) (x:Syntax):Nf low H x.cells=x.cells:=AF low H _ (Syntax.nb 0 x)
theorem Syntax.rpv (l:Nat) (ds:List AV) (x:Syntax):x.cells.map (rpV l ds)=x.cells:=CZ _ (Syntax.nb 0 x)
attribute [go_sem] Syntax.rpv
theorem Syntax.tk:(∀x:Syntax,List.take 8 x.cells=x.cells)∧ ∀x:Syntax,List.drop 8 x.cells=[]:=⟨fun x=>by rw[Syntax.cells_eq];rfl,fun x=>by rw[Syntax.cells_eq];rfl⟩
attribute [go_sem] Syntax.tk
theorem Syntax.reads:
 (∀x:Syntax,cellsOf (.agg x.cells)=some x.cells)∧
 (∀x:Syntax,qF true 8 x.cells=some (.agg x.cells))∧
 (∀x:Syntax,qF false 1 x.cells=some (.int .i64 x.kind))∧
 (∀x:Syntax,qF false 1 (x.cells.drop 1)=some (.str (sb x.text)))∧
 (∀x:Syntax,qF false 1 (x.cells.drop 2)=some (.int .i64 x.num))∧
 (∀x:Syntax,qF false 1 (x.cells.drop 3)=some (.nY false 1 (mp pP x.names)))∧
 (∀x:Syntax,qF false 1 (x.cells.drop 4)=some (.nY false 2 (mp mT.cells x.levels)))∧
 (∀x:Syntax,qF false 1 (x.cells.drop 5)=some (.nY false 8 (mp Syntax.cells x.kids)))∧
 (∀x:Syntax,qF false 1 (x.cells.drop 6)=some (.int .i64 x.from_))∧
 (∀x:Syntax,qF false 1 (x.cells.drop 7)=some (.int .i64 x.to)):=
 ⟨fun x=>by simp only[cellsOf,Syntax.scalar,if_true],
  fun x=>EG (Syntax.length x),
  fun x=>by rw[Syntax.cells_eq];rfl,
  fun x=>by rw[Syntax.cells_eq];rfl,
  fun x=>by rw[Syntax.cells_eq];rfl,
  fun x=>by rw[Syntax.cells_eq];rfl,
  fun x=>by rw[Syntax.cells_eq];rfl,
  fun x=>by rw[Syntax.cells_eq];rfl,
  fun x=>by rw[Syntax.cells_eq];rfl,
  fun x=>by rw[Syntax.cells_eq];rfl⟩
theorem Syntax.R0 (x:Syntax) (o:Nat) (xs:List AV):splice x.cells o xs=splice [.int .i64 x.kind,.str (sb x.text),.int .i64 x.num,.nY false 1 (mp pP x.names),.nY false 2 (mp mT.cells x.levels),.nY false 8 (mp Syntax.cells x.kids),.int .i64 x.from_,.int .i64 x.to] o xs:=by rw[Syntax.cells_eq]
theorem Syntax.KP (x:Syntax) (o:Nat) (c:AV) (cs:List AV):splice (c::cs) o x.cells=splice (c::cs) o [.int .i64 x.kind,.str (sb x.text),.int .i64 x.num,.nY false 1 (mp pP x.names),.nY false 2 (mp mT.cells x.levels),.nY false 8 (mp Syntax.cells x.kids),.int .i64 x.from_,.int .i64 x.to]:=by rw[Syntax.cells_eq]
theorem Syntax.app (x:Syntax) (l:List AV):x.cells++l=(.int .i64 x.kind:AV)::(.str (sb x.text):AV)::(.int .i64 x.num:AV)::(.nY false 1 (mp pP x.names):AV)::(.nY false 2 (mp mT.cells x.levels):AV)::(.nY false 8 (mp Syntax.cells x.kids):AV)::(.int .i64 x.from_:AV)::(.int .i64 x.to:AV)::l:=by rw[Syntax.cells_eq];rfl
theorem Syntax.cns (x:Syntax) (c:AV):c::x.cells=[c,.int .i64 x.kind,.str (sb x.text),.int .i64 x.num,.nY false 1 (mp pP x.names),.nY false 2 (mp mT.cells x.levels),.nY false 8 (mp Syntax.cells x.kids),.int .i64 x.from_,.int .i64 x.to]:=by rw[Syntax.cells_eq]
attribute [go_sem] Syntax.app Syntax.cns
attribute [go_sem] Syntax.nbs Syntax.RZ Syntax.Pq Syntax.reads Syntax.length Syntax.scalar
attribute [go_sem low] Syntax.R0 Syntax.KP
structure Anon71 where
 l:List Syntax
 e:Syntax
def Anon71.cells (x:Anon71):List AV:=[.nY false 8 (mp Syntax.cells x.l)]++x.e.cells
theorem Anon71.sM (x:Anon71):x.cells=[.nY false 8 (mp Syntax.cells x.l)]++x.e.cells:=rfl
theorem Anon71.cells_eq (x:Anon71):x.cells=[.nY false 8 (mp Syntax.cells x.l),.int .i64 x.e.kind,.str (sb x.e.text),.int .i64 x.e.num,.nY false 1 (mp pP x.e.names),.nY false 2 (mp mT.cells x.e.levels),.nY false 8 (mp Syntax.cells x.e.kids),.int .i64 x.e.from_,.int .i64 x.e.to]:=by
 simp only[Anon71.cells,Syntax.cells_eq,List.cons_append,List.nil_append,List.append_nil]
attribute [irreducible] Anon71.cells
theorem Anon71.length (x:Anon71):x.cells.length=9:=by rw[Anon71.cells_eq];rfl
theorem Anon71.scalar (x:Anon71):x.cells.all AV.scalar=true:=by rw[Anon71.cells_eq];rfl
theorem Anon71.nb (n:Nat) (x:Anon71):nbL n x.cells:=by
 rw[Anon71.sM]
 exact (GA ⟨uU (Syntax.nb n) _,trivial⟩ (Syntax.nb n x.e))
def Anon71.of (H:List AObj):List AV→Option Anon71
 |[c0,c1,c2,c3,c4,c5,c6,c7,c8]=>(dL Syntax.row H c0).bind fun x0=>(Syntax.of H [c1,c2,c3,c4,c5,c6,c7,c8]).bind fun x1=>some (.mk x0 x1)
 |_=>none
theorem Anon71.BE {H:List AObj} {c0 c1 c2 c3 c4 c5 c6 c7 c8:AV}:Anon71.of H [c0,c1,c2,c3,c4,c5,c6,c7,c8]=(dL Syntax.row H c0).bind fun x0=>(Syntax.of H [c1,c2,c3,c4,c5,c6,c7,c8]).bind fun x1=>some (.mk x0 x1):=rfl
theorem Anon71.vF (H:List AObj) (x:Anon71):Anon71.of H [.nY false 8 (mp Syntax.cells x.l),.int .i64 x.e.kind,.str (sb x.e.text),.int .i64 x.e.num,.nY false 1 (mp pP x.e.names),.nY false 2 (mp mT.cells x.e.levels),.nY false 8 (mp Syntax.cells x.e.kids),.int .i64 x.e.from_,.int .i64 x.e.to]=some x:=by
 simp only[Anon71.BE,KJ,HG,Px,AG,Fm,beq_self_eq_true,hJ,cond_true,dL,Syntax.ud,Syntax.row,Syntax.vF]
 try (cases x;rfl)
theorem Anon71.uJ (H:List AObj) (x:Anon71):Anon71.of H x.cells=some x:=by rw[Anon71.cells_eq];exact Anon71.vF H x
theorem Anon71.Fu {H:List AObj} {n:Nat} {cs:List AV} {x:Anon71} (h:Anon71.of H cs=some x):tX H n cs x.cells:=by
 unfold Anon71.of at h
 split at h
 ·simp only[gX,gY] at h
  obtain ⟨x0,h0,x1,h1,rfl⟩:=h
  rw[Anon71.sM]
  exact (tX.append (tX.cons (I9 h0) tX.nil) (Syntax.Fu h1))
 ·cases h
def Anon71.cel:LO Anon71:=⟨Anon71.cells,Anon71.of,fun _ _ _ _ h=>Anon71.Fu h,Anon71.nb⟩
def Anon71.row:Row Anon71:=⟨Anon71.cells,Anon71.of [],9,fun _ _ h=>(Anon71.Fu (n:=0) h).toSub,Anon71.nb⟩
theorem Anon71.ud (xs:List Anon71):mapO (Anon71.of []) (mp Anon71.cells xs)=some xs:=CK (Anon71.uJ []) xs
theorem Anon71.vk (xs:List Anon71) (i:Nat) (r:List AV):mapO (Anon71.of []) ((mp Anon71.cells xs).set i r)=bif decide (i<xs.length) then (Anon71.of [] r).bind fun y=>some (xs.set i y) else some xs:=Go.Abs.vk (Anon71.uJ []) xs i r
attribute [go_sem low] Anon71.vk
theorem Anon71.KO:Anon71.row.enc=Anon71.cells∧Anon71.row.dec=Anon71.of []∧Anon71.row.sz=9∧Anon71.cel.enc=Anon71.cells∧Anon71.cel.dec=Anon71.of:=⟨rfl,rfl,rfl,rfl,rfl⟩
theorem Anon71.eta (x:Anon71):Anon71.mk x.l x.e=x:=by cases x;rfl
attribute [go_sem] Anon71.BE Anon71.uJ Anon71.ud Anon71.KO Anon71.eta
theorem Anon71.prj:(∀ (y0:List Syntax) (y1:Syntax),(Anon71.mk y0 y1).l=y0)∧(∀ (y0:List Syntax) (y1:Syntax),(Anon71.mk y0 y1).e=y1):=⟨fun _ _=>rfl,fun _ _=>rfl⟩
attribute [go_sem] Anon71.prj
theorem Anon71.nbs:(∀ (n:Nat) (x:Anon71),Go.Abs.nbL n x.cells=True)∧ ∀ (n:Nat) (xs:List Anon71),Go.Abs.Gq n (mp Anon71.cells xs)=True:=⟨fun n x=>eq_true (Anon71.nb n x),fun n xs=>eq_true (uU (Anon71.nb n) xs)⟩
theorem Anon71.RZ:(∀ (ρ:Nat→Nat) (x:Anon71),renL ρ x.cells=x.cells)∧ ∀ (ρ:Nat→Nat) (xs:List Anon71),BA ρ (mp Anon71.cells xs)=mp Anon71.cells xs:=⟨fun ρ x=>uG ρ _ (Anon71.nb 0 x),fun ρ xs=>wN ρ _ (uU (Anon71.nb 0) xs)⟩
theorem Anon71.vw (H:List AObj) (x:Anon71):N6 H x.cells=some (x.cells,[]):=ED H _ (Anon71.nb 0 x)
attribute [go_sem] Anon71.vw
theorem Anon71.Pq (low:Nat) (H:List AObj) (x:Anon71):Nf low H x.cells=x.cells:=AF low H _ (Anon71.nb 0 x)
theorem Anon71.rpv (l:Nat) (ds:List AV) (x:Anon71):x.cells.map (rpV l ds)=x.cells:=CZ _ (Anon71.nb 0 x)
attribute [go_sem] Anon71.rpv
theorem Anon71.tk:(∀x:Anon71,List.take 9 x.cells=x.cells)∧ ∀x:Anon71,List.drop 9 x.cells=[]:=⟨fun x=>by rw[Anon71.cells_eq];rfl,fun x=>by rw[Anon71.cells_eq];rfl⟩
attribute [go_sem] Anon71.tk
theorem Anon71.reads:
 (∀x:Anon71,cellsOf (.agg x.cells)=some x.cells)∧
 (∀x:Anon71,qF true 9 x.cells=some (.agg x.cells))∧
 (∀x:Anon71,qF false 1 x.cells=some (.nY false 8 (mp Syntax.cells x.l)))∧
 (∀x:Anon71,qF false 1 (x.cells.drop 1)=some (.int .i64 x.e.kind))∧
 (∀x:Anon71,qF false 1 (x.cells.drop 2)=some (.str (sb x.e.text)))∧
 (∀x:Anon71,qF false 1 (x.cells.drop 3)=some (.int .i64 x.e.num))∧
 (∀x:Anon71,qF false 1 (x.cells.drop 4)=some (.nY false 1 (mp pP x.e.names)))∧
 (∀x:Anon71,qF false 1 (x.cells.drop 5)=some (.nY false 2 (mp mT.cells x.e.levels)))∧
 (∀x:Anon71,qF false 1 (x.cells.drop 6)=some (.nY false 8 (mp Syntax.cells x.e.kids)))∧
 (∀x:Anon71,qF false 1 (x.cells.drop 7)=some (.int .i64 x.e.from_))∧
 (∀x:Anon71,qF false 1 (x.cells.drop 8)=some (.int .i64 x.e.to))∧
 (∀x:Anon71,qF true 8 (x.cells.drop 1)=some (.agg x.e.cells)):=
 ⟨fun x=>by simp only[cellsOf,Anon71.scalar,if_true],
  fun x=>EG (Anon71.length x),
  fun x=>by rw[Anon71.cells_eq];rfl,
  fun x=>by rw[Anon71.cells_eq];rfl,
  fun x=>by rw[Anon71.cells_eq];rfl,
  fun x=>by rw[Anon71.cells_eq];rfl,
  fun x=>by rw[Anon71.cells_eq];rfl,
  fun x=>by rw[Anon71.cells_eq];rfl,
  fun x=>by rw[Anon71.cells_eq];rfl,
  fun x=>by rw[Anon71.cells_eq];rfl,
  fun x=>by rw[Anon71.cells_eq];rfl,
  fun x=>by rw[Anon71.cells_eq];simp only[Syntax.cells_eq,List.drop_succ_cons,List.drop_zero];rfl⟩
theorem Anon71.R0 (x:Anon71) (o:Nat) (xs:List AV):splice x.cells o xs=splice [.nY false 8 (mp Syntax.cells x.l),.int .i64 x.e.kind,.str (sb x.e.text),.int .i64 x.e.num,.nY false 1 (mp pP x.e.names),.nY false 2 (mp mT.cells x.e.levels),.nY false 8 (mp Syntax.cells x.e.kids),.int .i64 x.e.from_,.int .i64 x.e.to] o xs:=by rw[Anon71.cells_eq]
theorem Anon71.KP (x:Anon71) (o:Nat) (c:AV) (cs:List AV):splice (c::cs) o x.cells=splice (c::cs) o [.nY false 8 (mp Syntax.cells x.l),.int .i64 x.e.kind,.str (sb x.e.text),.int .i64 x.e.num,.nY false 1 (mp pP x.e.names),.nY false 2 (mp mT.cells x.e.levels),.nY false 8 (mp Syntax.cells x.e.kids),.int .i64 x.e.from_,.int .i64 x.e.to]:=by rw[Anon71.cells_eq]
theorem Anon71.app (x:Anon71) (l:List AV):x.cells++l=(.nY false 8 (mp Syntax.cells x.l):AV)::(.int .i64 x.e.kind:AV)::(.str (sb x.e.text):AV)::(.int .i64 x.e.num:AV)::(.nY false 1 (mp pP x.e.names):AV)::(.nY false 2 (mp mT.cells x.e.levels):AV)::(.nY false 8 (mp Syntax.cells x.e.kids):AV)::(.int .i64 x.e.from_:AV)::(.int .i64 x.e.to:AV)::l:=by rw[Anon71.cells_eq];rfl
theorem Anon71.cns (x:Anon71) (c:AV):c::x.cells=[c,.nY false 8 (mp Syntax.cells x.l),.int .i64 x.e.kind,.str (sb x.e.text),.int .i64 x.e.num,.nY false 1 (mp pP x.e.names),.nY false 2 (mp mT.cells x.e.levels),.nY false 8 (mp Syntax.cells x.e.kids),.int .i64 x.e.from_,.int .i64 x.e.to]:=by rw[Anon71.cells_eq]
attribute [go_sem] Anon71.app Anon71.cns
attribute [go_sem] Anon71.nbs Anon71.RZ Anon71.Pq Anon71.reads Anon71.length Anon71.scalar
attribute [go_sem low] Anon71.R0 Anon71.KP
structure mW where
 table:List Notation
 l:List Syntax
 at_:Int
 bad:Bool
def mW.cells (x:mW):List AV:=[.nY false 4 (mp Notation.cells x.table),.nY false 8 (mp Syntax.cells x.l),.int .i64 x.at_,.bool x.bad]
theorem mW.sM (x:mW):x.cells=[.nY false 4 (mp Notation.cells x.table),.nY false 8 (mp Syntax.cells x.l),.int .i64 x.at_,.bool x.bad]:=rfl
theorem mW.cells_eq (x:mW):x.cells=[.nY false 4 (mp Notation.cells x.table),.nY false 8 (mp Syntax.cells x.l),.int .i64 x.at_,.bool x.bad]:=rfl
attribute [irreducible] mW.cells
theorem mW.length (x:mW):x.cells.length=4:=by rw[mW.cells_eq];rfl
theorem mW.scalar (x:mW):x.cells.all AV.scalar=true:=by rw[mW.cells_eq];rfl
theorem mW.nb (n:Nat) (x:mW):nbL n x.cells:=by
 rw[mW.sM]
 exact ⟨uU (Notation.nb n) _,uU (Syntax.nb n) _,trivial,trivial,trivial⟩
def mW.of (H:List AObj):List AV→Option mW
 |[c0,c1,c2,c3]=>(dL Notation.row H c0).bind fun x0=>(dL Syntax.row H c1).bind fun x1=>(dI .i64 c2).bind fun x2=>(dB c3).bind fun x3=>some (.mk x0 x1 x2 x3)
 |_=>none
theorem mW.BE {H:List AObj} {c0 c1 c2 c3:AV}:mW.of H [c0,c1,c2,c3]=(dL Notation.row H c0).bind fun x0=>(dL Syntax.row H c1).bind fun x1=>(dI .i64 c2).bind fun x2=>(dB c3).bind fun x3=>some (.mk x0 x1 x2 x3):=rfl
theorem mW.vF (H:List AObj) (x:mW):mW.of H [.nY false 4 (mp Notation.cells x.table),.nY false 8 (mp Syntax.cells x.l),.int .i64 x.at_,.bool x.bad]=some x:=by
 simp only[mW.BE,KJ,HG,Px,AG,Fm,beq_self_eq_true,hJ,cond_true,dL,Notation.ud,Notation.row,Syntax.ud,Syntax.row]
 try (cases x;rfl)
theorem mW.uJ (H:List AObj) (x:mW):mW.of H x.cells=some x:=by rw[mW.cells_eq];exact mW.vF H x
theorem mW.Fu {H:List AObj} {n:Nat} {cs:List AV} {x:mW} (h:mW.of H cs=some x):tX H n cs x.cells:=by
 unfold mW.of at h
 split at h
 ·simp only[gX,gY] at h
  obtain ⟨x0,h0,x1,h1,x2,h2,x3,h3,rfl⟩:=h
  rw[mW.sM]
  exact (tX.cons (I9 h0) (tX.cons (I9 h1) (tX.cons (Gc h2) (tX.cons (XK h3) tX.nil))))
 ·cases h
def mW.cel:LO mW:=⟨mW.cells,mW.of,fun _ _ _ _ h=>mW.Fu h,mW.nb⟩
def mW.row:Row mW:=⟨mW.cells,mW.of [],4,fun _ _ h=>(mW.Fu (n:=0) h).toSub,mW.nb⟩
theorem mW.ud (xs:List mW):mapO (mW.of []) (mp mW.cells xs)=some xs:=CK (mW.uJ []) xs
theorem mW.vk (xs:List mW) (i:Nat) (r:List AV):mapO (mW.of []) ((mp mW.cells xs).set i r)=bif decide (i<xs.length) then (mW.of [] r).bind fun y=>some (xs.set i y) else some xs:=Go.Abs.vk (mW.uJ []) xs i r
attribute [go_sem low] mW.vk
theorem mW.KO:mW.row.enc=mW.cells∧mW.row.dec=mW.of []∧mW.row.sz=4∧mW.cel.enc=mW.cells∧mW.cel.dec=mW.of:=⟨rfl,rfl,rfl,rfl,rfl⟩
theorem mW.eta (x:mW):mW.mk x.table x.l x.at_ x.bad=x:=by cases x;rfl
attribute [go_sem] mW.BE mW.uJ mW.ud mW.KO mW.eta
theorem mW.prj:(∀ (y0:List Notation) (y1:List Syntax) (y2:Int) (y3:Bool),(mW.mk y0 y1 y2 y3).table=y0)∧(∀ (y0:List Notation) (y1:List Syntax) (y2:Int) (y3:Bool),(mW.mk y0 y1 y2 y3).l=y1)∧(∀ (y0:List Notation) (y1:List Syntax) (y2:Int) (y3:Bool),(mW.mk y0 y1 y2 y3).at_=y2)∧(∀ (y0:List Notation) (y1:List Syntax) (y2:Int) (y3:Bool),(mW.mk y0 y1 y2 y3).bad=y3):=⟨fun _ _ _ _=>rfl,fun _ _ _ _=>rfl,fun _ _ _ _=>rfl,fun _ _ _ _=>rfl⟩
attribute [go_sem] mW.prj
theorem mW.nbs:(∀ (n:Nat) (x:mW),Go.Abs.nbL n x.cells=True)∧ ∀ (n:Nat) (xs:List mW),Go.Abs.Gq n (mp mW.cells xs)=True:=⟨fun n x=>eq_true (mW.nb n x),fun n xs=>eq_true (uU (mW.nb n) xs)⟩
theorem mW.RZ:(∀ (ρ:Nat→Nat) (x:mW),renL ρ x.cells=x.cells)∧ ∀ (ρ:Nat→Nat) (xs:List mW),BA ρ (mp mW.cells xs)=mp mW.cells xs:=⟨fun ρ x=>uG ρ _ (mW.nb 0 x),fun ρ xs=>wN ρ _ (uU (mW.nb 0) xs)⟩
theorem mW.vw (H:List AObj) (x:mW):N6 H x.cells=some (x.cells,[]):=ED H _ (mW.nb 0 x)
attribute [go_sem] mW.vw
theorem mW.Pq (low:Nat) (H:List AObj) (x:mW):Nf low H x.cells=x.cells:=AF low H _ (mW.nb 0 x)
theorem mW.rpv (l:Nat) (ds:List AV) (x:mW):x.cells.map (rpV l ds)=x.cells:=CZ _ (mW.nb 0 x)
attribute [go_sem] mW.rpv
theorem mW.tk:(∀x:mW,List.take 4 x.cells=x.cells)∧ ∀x:mW,List.drop 4 x.cells=[]:=⟨fun x=>by rw[mW.cells_eq];rfl,fun x=>by rw[mW.cells_eq];rfl⟩
attribute [go_sem] mW.tk
theorem mW.reads:
 (∀x:mW,cellsOf (.agg x.cells)=some x.cells)∧
 (∀x:mW,qF true 4 x.cells=some (.agg x.cells))∧
 (∀x:mW,qF false 1 x.cells=some (.nY false 4 (mp Notation.cells x.table)))∧
 (∀x:mW,qF false 1 (x.cells.drop 1)=some (.nY false 8 (mp Syntax.cells x.l)))∧
 (∀x:mW,qF false 1 (x.cells.drop 2)=some (.int .i64 x.at_))∧
 (∀x:mW,qF false 1 (x.cells.drop 3)=some (.bool x.bad)):=
 ⟨fun x=>by simp only[cellsOf,mW.scalar,if_true],
  fun x=>EG (mW.length x),
  fun x=>by rw[mW.cells_eq];rfl,
  fun x=>by rw[mW.cells_eq];rfl,
  fun x=>by rw[mW.cells_eq];rfl,
  fun x=>by rw[mW.cells_eq];rfl⟩
theorem mW.R0 (x:mW) (o:Nat) (xs:List AV):splice x.cells o xs=splice [.nY false 4 (mp Notation.cells x.table),.nY false 8 (mp Syntax.cells x.l),.int .i64 x.at_,.bool x.bad] o xs:=by rw[mW.cells_eq]
theorem mW.KP (x:mW) (o:Nat) (c:AV) (cs:List AV):splice (c::cs) o x.cells=splice (c::cs) o [.nY false 4 (mp Notation.cells x.table),.nY false 8 (mp Syntax.cells x.l),.int .i64 x.at_,.bool x.bad]:=by rw[mW.cells_eq]
theorem mW.app (x:mW) (l:List AV):x.cells++l=(.nY false 4 (mp Notation.cells x.table):AV)::(.nY false 8 (mp Syntax.cells x.l):AV)::(.int .i64 x.at_:AV)::(.bool x.bad:AV)::l:=by rw[mW.cells_eq];rfl
theorem mW.cns (x:mW) (c:AV):c::x.cells=[c,.nY false 4 (mp Notation.cells x.table),.nY false 8 (mp Syntax.cells x.l),.int .i64 x.at_,.bool x.bad]:=by rw[mW.cells_eq]
attribute [go_sem] mW.app mW.cns
attribute [go_sem] mW.nbs mW.RZ mW.Pq mW.reads mW.length mW.scalar
attribute [go_sem low] mW.R0 mW.KP
end Go.Abs
namespace Go.Abs
open Go.Proofs
theorem tf0:
 so Tryd.prog 3=some (false,1)∧
 q8 Tryd.prog 3=none∧
 rS Tryd.prog 3=some [.int .i64 0]∧
 vU Tryd.prog 3=false∧
 P3 Tryd.prog 3=some .i64∧
 rF Tryd.prog 3=false∧
 tN Tryd.prog 3=true∧
 so Tryd.prog 4=some (false,1)∧
 q8 Tryd.prog 4=none∧
 rS Tryd.prog 4=some [.bool false]∧
 vU Tryd.prog 4=false∧
 rF Tryd.prog 4=true∧
 tN Tryd.prog 4=true∧
 so Tryd.prog 5=some (false,1)∧
 q8 Tryd.prog 5=none∧
 rS Tryd.prog 5=some [.int .u8 0]∧
 vU Tryd.prog 5=false∧
 P3 Tryd.prog 5=some .u8∧
 rF Tryd.prog 5=false∧
 tN Tryd.prog 5=true∧
 so Tryd.prog 9=some (false,1)∧
 q8 Tryd.prog 9=none∧
 rS Tryd.prog 9=some [.str gZ]∧
 vU Tryd.prog 9=true∧
 P3 Tryd.prog 9=none∧
 rF Tryd.prog 9=true∧
 tN Tryd.prog 9=true∧
 so Tryd.prog 21=some (false,1)∧
 q8 Tryd.prog 21=none∧
 rS Tryd.prog 21=some [.int .i32 0]∧
 vU Tryd.prog 21=false∧
 P3 Tryd.prog 21=some .i32∧
 rF Tryd.prog 21=false∧
 tN Tryd.prog 21=true∧
 so Tryd.prog 22=some (false,1)∧
 q8 Tryd.prog 22=some (9,1,16)∧
 rS Tryd.prog 22=some [.nY true 0 []]∧
 vU Tryd.prog 22=false∧
 rF Tryd.prog 22=true∧
 tN Tryd.prog 22=true∧
 so Tryd.prog 24=some (true,4)∧
 zz Tryd.prog 24=true∧
 xy Tryd.prog 24 0=some (0,22)∧
 p8 Tryd.prog 24 0=some (0,1)∧
 xy Tryd.prog 24 1=some (1,3)∧
 p8 Tryd.prog 24 1=some (1,1)∧
 xy Tryd.prog 24 2=some (2,3)∧
 p8 Tryd.prog 24 2=some (2,1)∧
 xy Tryd.prog 24 3=some (3,9)∧
 p8 Tryd.prog 24 3=some (3,1)∧
 q8 Tryd.prog 24=none∧
 rS Tryd.prog 24=some [.nY true 0 [],.int .i64 0,.int .i64 0,.str gZ]∧
 vU Tryd.prog 24=false∧
 rF Tryd.prog 24=true∧
 tN Tryd.prog 24=true∧
 so Tryd.prog 26=some (false,1)∧
 q8 Tryd.prog 26=some (24,4,56)∧
 rS Tryd.prog 26=some [.nY true 0 []]∧
 vU Tryd.prog 26=false∧
 rF Tryd.prog 26=true∧
 tN Tryd.prog 26=true∧
 so Tryd.prog 28=some (false,1)∧
 q8 Tryd.prog 28=none∧
 rS Tryd.prog 28=some [.int .i64 0]∧
 vU Tryd.prog 28=false∧
 P3 Tryd.prog 28=some .i64∧
 rF Tryd.prog 28=false∧
 tN Tryd.prog 28=true∧
 so Tryd.prog 31=some (false,1)∧
 q8 Tryd.prog 31=none∧
 rS Tryd.prog 31=some [.raw .nilFunc]∧
 vU Tryd.prog 31=false∧
 rF Tryd.prog 31=true∧
 tN Tryd.prog 31=true∧
 so Tryd.prog 32=some (false,1)∧
 q8 Tryd.prog 32=some (36,8,120)∧
 rS Tryd.prog 32=some [.nY true 0 []]∧
 vU Tryd.prog 32=false∧
 rF Tryd.prog 32=true∧
 tN Tryd.prog 32=true∧
 so Tryd.prog 34=some (false,1)∧
 q8 Tryd.prog 34=some (120,2,32)∧
 rS Tryd.prog 34=some [.nY true 0 []]∧
 vU Tryd.prog 34=false∧
 rF Tryd.prog 34=true∧
 tN Tryd.prog 34=true∧
 so Tryd.prog 36=some (true,8)∧
 zz Tryd.prog 36=true∧
 xy Tryd.prog 36 0=some (0,3)∧
 p8 Tryd.prog 36 0=some (0,1)∧
 xy Tryd.prog 36 1=some (1,9)∧
 p8 Tryd.prog 36 1=some (1,1)∧
 xy Tryd.prog 36 2=some (2,3)∧
 p8 Tryd.prog 36 2=some (2,1)∧
 xy Tryd.prog 36 3=some (3,22)∧
 p8 Tryd.prog 36 3=some (3,1)∧
 xy Tryd.prog 36 4=some (4,34)∧
 p8 Tryd.prog 36 4=some (4,1)∧
 xy Tryd.prog 36 5=some (5,32)∧
 p8 Tryd.prog 36 5=some (5,1)∧
 xy Tryd.prog 36 6=some (6,3)∧
 p8 Tryd.prog 36 6=some (6,1)∧
 xy Tryd.prog 36 7=some (7,3)∧
 p8 Tryd.prog 36 7=some (7,1)∧
 q8 Tryd.prog 36=none∧
 rS Tryd.prog 36=some [.int .i64 0,.str gZ,.int .i64 0,.nY true 0 [],.nY true 0 [],.nY true 0 [],.int .i64 0,.int .i64 0]∧
 vU Tryd.prog 36=false∧
 rF Tryd.prog 36=true∧
 tN Tryd.prog 36=true∧
 so Tryd.prog 43=some (false,1)∧
 q8 Tryd.prog 43=none∧
 rS Tryd.prog 43=some [.raw .nilFunc]∧
 vU Tryd.prog 43=false∧
 rF Tryd.prog 43=true∧
 tN Tryd.prog 43=true∧
 so Tryd.prog 54=some (true,4)∧
 zz Tryd.prog 54=true∧
 xy Tryd.prog 54 0=some (0,5)∧
 p8 Tryd.prog 54 0=some (0,1)∧
 xy Tryd.prog 54 1=some (1,5):=
 ⟨by kernel_rfl,by kernel_rfl,by kernel_rfl,by kernel_rfl,by kernel_rfl,by kernel_rfl,by kernel_rfl,by kernel_rfl,by kernel_rfl,by kernel_rfl,by kernel_rfl,by kernel_rfl,by kernel_rfl,by kernel_rfl,by kernel_rfl,by kernel_rfl,by kernel_rfl,by kernel_rfl,by kernel_rfl,by kernel_rfl,by kernel_rfl,by kernel_rfl,by kernel_rfl,by kernel_rfl,by kernel_rfl,by kernel_rfl,by kernel_rfl,by kernel_rfl,by kernel_rfl,by kernel_rfl,by kernel_rfl,by kernel_rfl,by kernel_rfl,by kernel_rfl,by kernel_rfl,by kernel_rfl,by kernel_rfl,by kernel_rfl,by kernel_rfl,by kernel_rfl,by kernel_rfl,by kernel_rfl,by kernel_rfl,by kernel_rfl,by kernel_rfl,by kernel_rfl,by kernel_rfl,by kernel_rfl,by kernel_rfl,by kernel_rfl,by kernel_rfl,by kernel_rfl,by kernel_rfl,by kernel_rfl,by kernel_rfl,by kernel_rfl,by kernel_rfl,by kernel_rfl,by kernel_rfl,by kernel_rfl,by kernel_rfl,by kernel_rfl,by kernel_rfl,by kernel_rfl,by kernel_rfl,by kernel_rfl,by kernel_rfl,by kernel_rfl,by kernel_rfl,by kernel_rfl,by kernel_rfl,by kernel_rfl,by kernel_rfl,by kernel_rfl,by kernel_rfl,by kernel_rfl,by kernel_rfl,by kernel_rfl,by kernel_rfl,by kernel_rfl,by kernel_rfl,by kernel_rfl,by kernel_rfl,by kernel_rfl,by kernel_rfl,by kernel_rfl,by kernel_rfl,by kernel_rfl,by kernel_rfl,by kernel_rfl,by kernel_rfl,by kernel_rfl,by kernel_rfl,by kernel_rfl,by kernel_rfl,by kernel_rfl,by kernel_rfl,by kernel_rfl,by kernel_rfl,by kernel_rfl,by kernel_rfl,by kernel_rfl,by kernel_rfl,by kernel_rfl,by kernel_rfl,by kernel_rfl,by kernel_rfl,by kernel_rfl,by kernel_rfl,by kernel_rfl,by kernel_rfl,by kernel_rfl,by kernel_rfl,by kernel_rfl,by kernel_rfl,by kernel_rfl,by kernel_rfl,by kernel_rfl,by kernel_rfl,by kernel_rfl⟩
theorem tf1:
 p8 Tryd.prog 54 1=some (1,1)∧
 xy Tryd.prog 54 2=some (2,5)∧
 p8 Tryd.prog 54 2=some (2,1)∧
 xy Tryd.prog 54 3=some (3,5)∧
 p8 Tryd.prog 54 3=some (3,1)∧
 q8 Tryd.prog 54=none∧
 rS Tryd.prog 54=some [.int .u8 0,.int .u8 0,.int .u8 0,.int .u8 0]∧
 vU Tryd.prog 54=false∧
 rF Tryd.prog 54=true∧
 tN Tryd.prog 54=true∧
 so Tryd.prog 69=some (false,1)∧
 q8 Tryd.prog 69=none∧
 rS Tryd.prog 69=some [.raw .nilFunc]∧
 vU Tryd.prog 69=false∧
 rF Tryd.prog 69=true∧
 tN Tryd.prog 69=true∧
 so Tryd.prog 71=some (true,9)∧
 zz Tryd.prog 71=true∧
 xy Tryd.prog 71 0=some (0,32)∧
 p8 Tryd.prog 71 0=some (0,1)∧
 xy Tryd.prog 71 1=some (1,36)∧
 p8 Tryd.prog 71 1=some (1,8)∧
 q8 Tryd.prog 71=none∧
 rS Tryd.prog 71=some [.nY true 0 [],.int .i64 0,.str gZ,.int .i64 0,.nY true 0 [],.nY true 0 [],.nY true 0 [],.int .i64 0,.int .i64 0]∧
 vU Tryd.prog 71=false∧
 rF Tryd.prog 71=true∧
 tN Tryd.prog 71=true∧
 so Tryd.prog 72=some (false,1)∧
 q8 Tryd.prog 72=some (71,9,144)∧
 rS Tryd.prog 72=some [.nY true 0 []]∧
 vU Tryd.prog 72=false∧
 rF Tryd.prog 72=true∧
 tN Tryd.prog 72=true∧
 so Tryd.prog 76=some (false,1)∧
 q8 Tryd.prog 76=none∧
 rS Tryd.prog 76=some [.raw (.pointer none)]∧
 vU Tryd.prog 76=false∧
 rF Tryd.prog 76=true∧
 tN Tryd.prog 76=true∧
 so Tryd.prog 79=some (false,1)∧
 q8 Tryd.prog 79=none∧
 rS Tryd.prog 79=some [.raw (.pointer none)]∧
 vU Tryd.prog 79=false∧
 rF Tryd.prog 79=true∧
 tN Tryd.prog 79=true∧
 so Tryd.prog 81=some (true,3)∧
 zz Tryd.prog 81=true∧
 xy Tryd.prog 81 0=some (0,76)∧
 p8 Tryd.prog 81 0=some (0,1)∧
 xy Tryd.prog 81 1=some (1,32)∧
 p8 Tryd.prog 81 1=some (1,1)∧
 xy Tryd.prog 81 2=some (2,3)∧
 p8 Tryd.prog 81 2=some (2,1)∧
 q8 Tryd.prog 81=none∧
 rS Tryd.prog 81=some [.raw (.pointer none),.nY true 0 [],.int .i64 0]∧
 vU Tryd.prog 81=false∧
 rF Tryd.prog 81=true∧
 tN Tryd.prog 81=true∧
 so Tryd.prog 83=some (true,0)∧
 zz Tryd.prog 83=true∧
 q8 Tryd.prog 83=none∧
 rS Tryd.prog 83=some []∧
 vU Tryd.prog 83=false∧
 rF Tryd.prog 83=true∧
 tN Tryd.prog 83=true∧
 so Tryd.prog 87=some (false,1)∧
 q8 Tryd.prog 87=none∧
 rS Tryd.prog 87=some [.raw (.pointer none)]∧
 vU Tryd.prog 87=false∧
 rF Tryd.prog 87=true∧
 tN Tryd.prog 87=true∧
 so Tryd.prog 89=some (true,4)∧
 zz Tryd.prog 89=true∧
 xy Tryd.prog 89 0=some (0,26)∧
 p8 Tryd.prog 89 0=some (0,1)∧
 xy Tryd.prog 89 1=some (1,32)∧
 p8 Tryd.prog 89 1=some (1,1)∧
 xy Tryd.prog 89 2=some (2,3)∧
 p8 Tryd.prog 89 2=some (2,1)∧
 xy Tryd.prog 89 3=some (3,4)∧
 p8 Tryd.prog 89 3=some (3,1)∧
 q8 Tryd.prog 89=none∧
 rS Tryd.prog 89=some [.nY true 0 [],.nY true 0 [],.int .i64 0,.bool false]∧
 vU Tryd.prog 89=false∧
 rF Tryd.prog 89=true∧
 tN Tryd.prog 89=true∧
 so Tryd.prog 92=some (false,1)∧
 q8 Tryd.prog 92=none∧
 rS Tryd.prog 92=some [.raw (.pointer none)]∧
 vU Tryd.prog 92=false∧
 rF Tryd.prog 92=true∧
 tN Tryd.prog 92=true∧
 so Tryd.prog 93=some (false,1)∧
 q8 Tryd.prog 93=none∧
 rS Tryd.prog 93=some [.raw (.map none)]∧
 Kx Tryd.prog 93=some (.agg [.nY true 0 [],.int .i64 0,.int .i64 0,.str gZ])∧
 vU Tryd.prog 93=false∧
 rF Tryd.prog 93=true∧
 tN Tryd.prog 93=true∧
 so Tryd.prog 95=some (true,1)∧
 zz Tryd.prog 95=true∧
 xy Tryd.prog 95 0=some (0,93)∧
 p8 Tryd.prog 95 0=some (0,1)∧
 q8 Tryd.prog 95=none∧
 rS Tryd.prog 95=some [.raw (.map none)]∧
 vU Tryd.prog 95=false∧
 rF Tryd.prog 95=true∧
 tN Tryd.prog 95=true∧
 so Tryd.prog 101=some (false,1)∧
 q8 Tryd.prog 101=none∧
 rS Tryd.prog 101=some [.raw (.map none)]∧
 Kx Tryd.prog 101=some (.bool false)∧
 vU Tryd.prog 101=false∧
 rF Tryd.prog 101=true∧
 tN Tryd.prog 101=true∧
 so Tryd.prog 114=some (true,4)∧
 zz Tryd.prog 114=true∧
 xy Tryd.prog 114 0=some (0,93)∧
 p8 Tryd.prog 114 0=some (0,1)∧
 xy Tryd.prog 114 1=some (1,93):=
 ⟨by kernel_rfl,by kernel_rfl,by kernel_rfl,by kernel_rfl,by kernel_rfl,by kernel_rfl,by kernel_rfl,by kernel_rfl,by kernel_rfl,by kernel_rfl,by kernel_rfl,by kernel_rfl,by kernel_rfl,by kernel_rfl,by kernel_rfl,by kernel_rfl,by kernel_rfl,by kernel_rfl,by kernel_rfl,by kernel_rfl,by kernel_rfl,by kernel_rfl,by kernel_rfl,by kernel_rfl,by kernel_rfl,by kernel_rfl,by kernel_rfl,by kernel_rfl,by kernel_rfl,by kernel_rfl,by kernel_rfl,by kernel_rfl,by kernel_rfl,by kernel_rfl,by kernel_rfl,by kernel_rfl,by kernel_rfl,by kernel_rfl,by kernel_rfl,by kernel_rfl,by kernel_rfl,by kernel_rfl,by kernel_rfl,by kernel_rfl,by kernel_rfl,by kernel_rfl,by kernel_rfl,by kernel_rfl,by kernel_rfl,by kernel_rfl,by kernel_rfl,by kernel_rfl,by kernel_rfl,by kernel_rfl,by kernel_rfl,by kernel_rfl,by kernel_rfl,by kernel_rfl,by kernel_rfl,by kernel_rfl,by kernel_rfl,by kernel_rfl,by kernel_rfl,by kernel_rfl,by kernel_rfl,by kernel_rfl,by kernel_rfl,by kernel_rfl,by kernel_rfl,by kernel_rfl,by kernel_rfl,by kernel_rfl,by kernel_rfl,by kernel_rfl,by kernel_rfl,by kernel_rfl,by kernel_rfl,by kernel_rfl,by kernel_rfl,by kernel_rfl,by kernel_rfl,by kernel_rfl,by kernel_rfl,by kernel_rfl,by kernel_rfl,by kernel_rfl,by kernel_rfl,by kernel_rfl,by kernel_rfl,by kernel_rfl,by kernel_rfl,by kernel_rfl,by kernel_rfl,by kernel_rfl,by kernel_rfl,by kernel_rfl,by kernel_rfl,by kernel_rfl,by kernel_rfl,by kernel_rfl,by kernel_rfl,by kernel_rfl,by kernel_rfl,by kernel_rfl,by kernel_rfl,by kernel_rfl,by kernel_rfl,by kernel_rfl,by kernel_rfl,by kernel_rfl,by kernel_rfl,by kernel_rfl,by kernel_rfl,by kernel_rfl,by kernel_rfl,by kernel_rfl,by kernel_rfl,by kernel_rfl,by kernel_rfl,by kernel_rfl⟩
theorem tf2:
 p8 Tryd.prog 114 1=some (1,1)∧
 xy Tryd.prog 114 2=some (2,101)∧
 p8 Tryd.prog 114 2=some (2,1)∧
 xy Tryd.prog 114 3=some (3,3)∧
 p8 Tryd.prog 114 3=some (3,1)∧
 q8 Tryd.prog 114=none∧
 rS Tryd.prog 114=some [.raw (.map none),.raw (.map none),.raw (.map none),.int .i64 0]∧
 vU Tryd.prog 114=false∧
 rF Tryd.prog 114=true∧
 tN Tryd.prog 114=true∧
 so Tryd.prog 118=some (false,1)∧
 q8 Tryd.prog 118=some (122,2,24)∧
 rS Tryd.prog 118=some [.nY true 0 []]∧
 vU Tryd.prog 118=false∧
 rF Tryd.prog 118=true∧
 tN Tryd.prog 118=true∧
 so Tryd.prog 120=some (true,2)∧
 zz Tryd.prog 120=true∧
 xy Tryd.prog 120 0=some (0,4)∧
 p8 Tryd.prog 120 0=some (0,1)∧
 xy Tryd.prog 120 1=some (1,118)∧
 p8 Tryd.prog 120 1=some (1,1)∧
 q8 Tryd.prog 120=none∧
 rS Tryd.prog 120=some [.bool false,.nY true 0 []]∧
 vU Tryd.prog 120=false∧
 rF Tryd.prog 120=true∧
 tN Tryd.prog 120=true∧
 so Tryd.prog 122=some (true,2)∧
 zz Tryd.prog 122=true∧
 xy Tryd.prog 122 0=some (0,9)∧
 p8 Tryd.prog 122 0=some (0,1)∧
 xy Tryd.prog 122 1=some (1,3)∧
 p8 Tryd.prog 122 1=some (1,1)∧
 q8 Tryd.prog 122=none∧
 rS Tryd.prog 122=some [.str gZ,.int .i64 0]∧
 vU Tryd.prog 122=false∧
 rF Tryd.prog 122=true∧
 tN Tryd.prog 122=true∧
 so Tryd.prog 145=some (true,256)∧
 WH Tryd.prog 145=some (256,1)∧
 zz Tryd.prog 145=true∧
 q8 Tryd.prog 145=none∧
 vU Tryd.prog 145=false∧
 rF Tryd.prog 145=true∧
 tN Tryd.prog 145=true∧
 so Tryd.prog 147=some (false,1)∧
 q8 Tryd.prog 147=none∧
 rS Tryd.prog 147=some [.raw .nilFunc]∧
 vU Tryd.prog 147=false∧
 rF Tryd.prog 147=true∧
 tN Tryd.prog 147=true∧
 so Tryd.prog 152=some (false,1)∧
 q8 Tryd.prog 152=none∧
 rS Tryd.prog 152=some [.int .u64 0]∧
 vU Tryd.prog 152=false∧
 P3 Tryd.prog 152=some .u64∧
 rF Tryd.prog 152=false∧
 tN Tryd.prog 152=true∧
 so Tryd.prog 153=some (false,1)∧
 q8 Tryd.prog 153=some (155,2,16)∧
 rS Tryd.prog 153=some [.nY true 0 []]∧
 vU Tryd.prog 153=false∧
 rF Tryd.prog 153=true∧
 tN Tryd.prog 153=true∧
 so Tryd.prog 155=some (true,2)∧
 zz Tryd.prog 155=true∧
 xy Tryd.prog 155 0=some (0,3)∧
 p8 Tryd.prog 155 0=some (0,1)∧
 xy Tryd.prog 155 1=some (1,3)∧
 p8 Tryd.prog 155 1=some (1,1)∧
 q8 Tryd.prog 155=none∧
 rS Tryd.prog 155=some [.int .i64 0,.int .i64 0]∧
 vU Tryd.prog 155=false∧
 rF Tryd.prog 155=true∧
 tN Tryd.prog 155=true∧
 so Tryd.prog 156=some (false,1)∧
 q8 Tryd.prog 156=none∧
 rS Tryd.prog 156=some [.int .u32 0]∧
 vU Tryd.prog 156=false∧
 P3 Tryd.prog 156=some .u32∧
 rF Tryd.prog 156=false∧
 tN Tryd.prog 156=true∧
 so Tryd.prog 158=some (false,1)∧
 q8 Tryd.prog 158=none∧
 rS Tryd.prog 158=some [.raw (.pointer none)]∧
 vU Tryd.prog 158=false∧
 rF Tryd.prog 158=true∧
 tN Tryd.prog 158=true∧
 so Tryd.prog 161=some (false,1)∧
 q8 Tryd.prog 161=some (167,3,6)∧
 rS Tryd.prog 161=some [.nY true 0 []]∧
 vU Tryd.prog 161=false∧
 rF Tryd.prog 161=true∧
 tN Tryd.prog 161=true∧
 so Tryd.prog 162=some (false,1)∧
 q8 Tryd.prog 162=some (170,3,12)∧
 rS Tryd.prog 162=some [.nY true 0 []]∧
 vU Tryd.prog 162=false∧
 rF Tryd.prog 162=true∧
 tN Tryd.prog 162=true∧
 so Tryd.prog 164=some (true,3)∧
 zz Tryd.prog 164=true∧
 xy Tryd.prog 164 0=some (0,161)∧
 p8 Tryd.prog 164 0=some (0,1)∧
 xy Tryd.prog 164 1=some (1,162)∧
 p8 Tryd.prog 164 1=some (1,1)∧
 xy Tryd.prog 164 2=some (2,3)∧
 p8 Tryd.prog 164 2=some (2,1)∧
 q8 Tryd.prog 164=none∧
 rS Tryd.prog 164=some [.nY true 0 [],.nY true 0 [],.int .i64 0]∧
 vU Tryd.prog 164=false∧
 rF Tryd.prog 164=true∧
 tN Tryd.prog 164=true∧
 so Tryd.prog 165=some (false,1)∧
 q8 Tryd.prog 165=none∧
 rS Tryd.prog 165=some [.int .u16 0]∧
 vU Tryd.prog 165=false∧
 P3 Tryd.prog 165=some .u16∧
 rF Tryd.prog 165=false∧
 tN Tryd.prog 165=true:=
 ⟨by kernel_rfl,by kernel_rfl,by kernel_rfl,by kernel_rfl,by kernel_rfl,by kernel_rfl,by kernel_rfl,by kernel_rfl,by kernel_rfl,by kernel_rfl,by kernel_rfl,by kernel_rfl,by kernel_rfl,by kernel_rfl,by kernel_rfl,by kernel_rfl,by kernel_rfl,by kernel_rfl,by kernel_rfl,by kernel_rfl,by kernel_rfl,by kernel_rfl,by kernel_rfl,by kernel_rfl,by kernel_rfl,by kernel_rfl,by kernel_rfl,by kernel_rfl,by kernel_rfl,by kernel_rfl,by kernel_rfl,by kernel_rfl,by kernel_rfl,by kernel_rfl,by kernel_rfl,by kernel_rfl,by kernel_rfl,by kernel_rfl,by kernel_rfl,by kernel_rfl,by kernel_rfl,by kernel_rfl,by kernel_rfl,by kernel_rfl,by kernel_rfl,by kernel_rfl,by kernel_rfl,by kernel_rfl,by kernel_rfl,by kernel_rfl,by kernel_rfl,by kernel_rfl,by kernel_rfl,by kernel_rfl,by kernel_rfl,by kernel_rfl,by kernel_rfl,by kernel_rfl,by kernel_rfl,by kernel_rfl,by kernel_rfl,by kernel_rfl,by kernel_rfl,by kernel_rfl,by kernel_rfl,by kernel_rfl,by kernel_rfl,by kernel_rfl,by kernel_rfl,by kernel_rfl,by kernel_rfl,by kernel_rfl,by kernel_rfl,by kernel_rfl,by kernel_rfl,by kernel_rfl,by kernel_rfl,by kernel_rfl,by kernel_rfl,by kernel_rfl,by kernel_rfl,by kernel_rfl,by kernel_rfl,by kernel_rfl,by kernel_rfl,by kernel_rfl,by kernel_rfl,by kernel_rfl,by kernel_rfl,by kernel_rfl,by kernel_rfl,by kernel_rfl,by kernel_rfl,by kernel_rfl,by kernel_rfl,by kernel_rfl,by kernel_rfl,by kernel_rfl,by kernel_rfl,by kernel_rfl,by kernel_rfl,by kernel_rfl,by kernel_rfl,by kernel_rfl,by kernel_rfl,by kernel_rfl,by kernel_rfl,by kernel_rfl,by kernel_rfl,by kernel_rfl,by kernel_rfl,by kernel_rfl,by kernel_rfl,by kernel_rfl,by kernel_rfl,by kernel_rfl,by kernel_rfl,by kernel_rfl,by kernel_rfl,by kernel_rfl⟩
theorem tf3:
 so Tryd.prog 167=some (true,3)∧
 zz Tryd.prog 167=true∧
 xy Tryd.prog 167 0=some (0,165)∧
 p8 Tryd.prog 167 0=some (0,1)∧
 xy Tryd.prog 167 1=some (1,165)∧
 p8 Tryd.prog 167 1=some (1,1)∧
 xy Tryd.prog 167 2=some (2,165)∧
 p8 Tryd.prog 167 2=some (2,1)∧
 q8 Tryd.prog 167=none∧
 rS Tryd.prog 167=some [.int .u16 0,.int .u16 0,.int .u16 0]∧
 vU Tryd.prog 167=false∧
 rF Tryd.prog 167=true∧
 tN Tryd.prog 167=true∧
 so Tryd.prog 170=some (true,3)∧
 zz Tryd.prog 170=true∧
 xy Tryd.prog 170 0=some (0,156)∧
 p8 Tryd.prog 170 0=some (0,1)∧
 xy Tryd.prog 170 1=some (1,156)∧
 p8 Tryd.prog 170 1=some (1,1)∧
 xy Tryd.prog 170 2=some (2,156)∧
 p8 Tryd.prog 170 2=some (2,1)∧
 q8 Tryd.prog 170=none∧
 rS Tryd.prog 170=some [.int .u32 0,.int .u32 0,.int .u32 0]∧
 vU Tryd.prog 170=false∧
 rF Tryd.prog 170=true∧
 tN Tryd.prog 170=true∧
 so Tryd.prog 173=some (true,2)∧
 zz Tryd.prog 173=true∧
 xy Tryd.prog 173 0=some (0,5)∧
 p8 Tryd.prog 173 0=some (0,1)∧
 xy Tryd.prog 173 1=some (1,5)∧
 p8 Tryd.prog 173 1=some (1,1)∧
 q8 Tryd.prog 173=none∧
 rS Tryd.prog 173=some [.int .u8 0,.int .u8 0]∧
 vU Tryd.prog 173=false∧
 rF Tryd.prog 173=true∧
 tN Tryd.prog 173=true∧
 so Tryd.prog 174=some (true,32)∧
 WH Tryd.prog 174=some (16,2)∧
 zz Tryd.prog 174=true∧
 p8 Tryd.prog 174 0=some (0,2)∧
 p8 Tryd.prog 174 1=some (2,2)∧
 p8 Tryd.prog 174 2=some (4,2)∧
 p8 Tryd.prog 174 3=some (6,2)∧
 p8 Tryd.prog 174 4=some (8,2)∧
 p8 Tryd.prog 174 5=some (10,2)∧
 p8 Tryd.prog 174 6=some (12,2)∧
 p8 Tryd.prog 174 7=some (14,2)∧
 p8 Tryd.prog 174 8=some (16,2)∧
 p8 Tryd.prog 174 9=some (18,2)∧
 p8 Tryd.prog 174 10=some (20,2)∧
 p8 Tryd.prog 174 11=some (22,2)∧
 p8 Tryd.prog 174 12=some (24,2)∧
 p8 Tryd.prog 174 13=some (26,2)∧
 p8 Tryd.prog 174 14=some (28,2)∧
 p8 Tryd.prog 174 15=some (30,2)∧
 q8 Tryd.prog 174=none∧
 rS Tryd.prog 174=some [.int .u8 0,.int .u8 0,.int .u8 0,.int .u8 0,.int .u8 0,.int .u8 0,.int .u8 0,.int .u8 0,.int .u8 0,.int .u8 0,.int .u8 0,.int .u8 0,.int .u8 0,.int .u8 0,.int .u8 0,.int .u8 0,.int .u8 0,.int .u8 0,.int .u8 0,.int .u8 0,.int .u8 0,.int .u8 0,.int .u8 0,.int .u8 0,.int .u8 0,.int .u8 0,.int .u8 0,.int .u8 0,.int .u8 0,.int .u8 0,.int .u8 0,.int .u8 0]∧
 vU Tryd.prog 174=false∧
 rF Tryd.prog 174=true∧
 tN Tryd.prog 174=true∧
 tbl Tryd.prog 4=true∧
 Y9 Tryd.prog 20=true:=
 ⟨by kernel_rfl,by kernel_rfl,by kernel_rfl,by kernel_rfl,by kernel_rfl,by kernel_rfl,by kernel_rfl,by kernel_rfl,by kernel_rfl,by kernel_rfl,by kernel_rfl,by kernel_rfl,by kernel_rfl,by kernel_rfl,by kernel_rfl,by kernel_rfl,by kernel_rfl,by kernel_rfl,by kernel_rfl,by kernel_rfl,by kernel_rfl,by kernel_rfl,by kernel_rfl,by kernel_rfl,by kernel_rfl,by kernel_rfl,by kernel_rfl,by kernel_rfl,by kernel_rfl,by kernel_rfl,by kernel_rfl,by kernel_rfl,by kernel_rfl,by kernel_rfl,by kernel_rfl,by kernel_rfl,by kernel_rfl,by kernel_rfl,by kernel_rfl,by kernel_rfl,by kernel_rfl,by kernel_rfl,by kernel_rfl,by kernel_rfl,by kernel_rfl,by kernel_rfl,by kernel_rfl,by kernel_rfl,by kernel_rfl,by kernel_rfl,by kernel_rfl,by kernel_rfl,by kernel_rfl,by kernel_rfl,by kernel_rfl,by kernel_rfl,by kernel_rfl,by kernel_rfl,by kernel_rfl,by kernel_rfl,by kernel_rfl,by kernel_rfl,by kernel_rfl⟩
theorem mixed:Tryd.prog.follows .mixedOrders=true:=by kernel_rfl
attribute [go_sem] tf0 tf1 tf2 tf3
end Go.Abs
namespace Go.Abs
open Go.Proofs
set_option maxRecDepth 100000
theorem mX.aggEq (a b:mX):QN Tryd.prog 122 a.cells b.cells=True:=by
 refine eq_true (aggEq_flat (by kernel_rfl) (by kernel_rfl) (by kernel_rfl) ?_)
 rw[mX.cells_eq,mX.cells_eq]
 exact ⟨⟨by decide,by kernel_rfl,by kernel_rfl,by dsimp only;kernel_rfl⟩,⟨by decide,by kernel_rfl,by kernel_rfl,rfl,.i64,by kernel_rfl⟩,trivial⟩
theorem mX.Wx (a b:mX):Go.Abs.Wx a.cells b.cells=((a.name==b.name)&&(a.plus==b.plus)):=by
 rw[mX.cells_eq,mX.cells_eq]
 simp only[Go.Abs.Wx,eq1,EE,Bool.and_true]
attribute [go_sem] mX.aggEq mX.Wx
theorem mX.aggEqL (a:mX) (y0:Str) (y1:Int):QN Tryd.prog 122 a.cells [.str (sb y0),.int .i64 y1]=True:=by
 have:=mX.aggEq a (mX.mk y0 y1)
 rwa [mX.cells_eq (mX.mk y0 y1)] at this
theorem mX.eqBL (a:mX) (y0:Str) (y1:Int):Go.Abs.Wx a.cells [.str (sb y0),.int .i64 y1]=((a.name==y0)&&(a.plus==y1)):=by
 have:=mX.Wx a (mX.mk y0 y1)
 rwa [mX.cells_eq (mX.mk y0 y1)] at this
attribute [go_sem] mX.aggEqL mX.eqBL
theorem Notation.tyInj: ∀x y:Notation,((nG Notation.cel)).enc x=((nG Notation.cel)).enc y→x=y:=fun x y h=>by
 have h2:Notation.cells x=Notation.cells y:=AV.agg.inj h
 have h3:Notation.of [] x.cells=Notation.of [] y.cells:=by rw[h2]
 rw[Notation.uJ,Notation.uJ] at h3
 exact Option.some.inj h3
theorem Notation.mapD:(∀xs,MU (nG Notation.cel) (.map (mp (mcT (nG Notation.cel)) xs))=some xs)∧MU (nG Notation.cel) (.map [])=some []∧MU (nG Notation.cel) (.map (mp mcB []))=some []:=ddMT_all Notation.tyInj
theorem Notation.mapUS (l:Nat) (s:Str) (v:Notation) (xs:List (Str×Notation)):mapUpEff l (sb s) (.agg v.cells) (some (.map (mp (mcT (nG Notation.cel)) xs)))=some {val:= .any,rd:=[l],up:=[(l,.map (mp (mcT (nG Notation.cel)) (z8 s v xs)))]}:=by
 have:=V2 (t:=(nG Notation.cel)) (l:=l) (s:=s) (v:=v) (xs:=xs)
 rwa [show ((nG Notation.cel)).enc v= .agg v.cells from rfl] at this
theorem Notation.mapNS (l:Nat) (s:Str) (v:Notation):mapUpEff l (sb s) (.agg v.cells) (some (.map (mp mcB [])))=some {val:= .any,rd:=[l],up:=[(l,.map (mp (mcT (nG Notation.cel)) [(s,v)]))]}:=by
 have:=mapUp_nilB (t:=(nG Notation.cel)) (l:=l) (s:=s) (v:=v)
 rwa [show ((nG Notation.cel)).enc v= .agg v.cells from rfl] at this
theorem Notation.mapUL (l:Nat) (s:Str) (y0:List Str) (y1:Int) (y2:Int) (y3:Str) (xs:List (Str×Notation)):mapUpEff l (sb s) (.agg [.nY false 1 (mp pP y0),.int .i64 y1,.int .i64 y2,.str (sb y3)]) (some (.map (mp (mcT (nG Notation.cel)) xs)))=some {val:= .any,rd:=[l],up:=[(l,.map (mp (mcT (nG Notation.cel)) (z8 s (Notation.mk y0 y1 y2 y3) xs)))]}:=by
 have:=V2 (t:=(nG Notation.cel)) (l:=l) (s:=s) (v:=(Notation.mk y0 y1 y2 y3)) (xs:=xs)
 rwa [show ((nG Notation.cel)).enc (Notation.mk y0 y1 y2 y3)= .agg [.nY false 1 (mp pP y0),.int .i64 y1,.int .i64 y2,.str (sb y3)] from congrArg AV.agg (Notation.cells_eq (Notation.mk y0 y1 y2 y3))] at this
theorem Notation.mapNL (l:Nat) (s:Str) (y0:List Str) (y1:Int) (y2:Int) (y3:Str):mapUpEff l (sb s) (.agg [.nY false 1 (mp pP y0),.int .i64 y1,.int .i64 y2,.str (sb y3)]) (some (.map (mp mcB [])))=some {val:= .any,rd:=[l],up:=[(l,.map (mp (mcT (nG Notation.cel)) [(s,(Notation.mk y0 y1 y2 y3))]))]}:=by
 have:=mapUp_nilB (t:=(nG Notation.cel)) (l:=l) (s:=s) (v:=(Notation.mk y0 y1 y2 y3))
 rwa [show ((nG Notation.cel)).enc (Notation.mk y0 y1 y2 y3)= .agg [.nY false 1 (mp pP y0),.int .i64 y1,.int .i64 y2,.str (sb y3)] from congrArg AV.agg (Notation.cells_eq (Notation.mk y0 y1 y2 y3))] at this
attribute [go_sem] Notation.mapD Notation.mapUS Notation.mapUL Notation.mapNS Notation.mapNL
end Go.Abs
namespace Go.Abs
theorem Syntax.nbset (n:Nat) (xs:List Syntax) (i:Nat) (r:List AV):Go.Abs.Gq n ((mp Syntax.cells xs).set i r)=(xs.length≤i∨Go.Abs.nbL n r):=by
 rw[Go.Abs.VX (of_eq_true (Syntax.nbs.2 n xs)),EB]
end Go.Abs
namespace Go.Abs
abbrev T3:Type:=(List (Str×Notation))
abbrev T5:Type:=(List (Str×Bool))
abbrev T7:Type:=((Int×Unit)×(T3×(T3×(T5×Unit))))
abbrev T0:Type:=(((List Syntax)×(Int×Unit))×T7)
abbrev T4:Type:=(PR (T0×(Syntax×(Int×Unit))) (T0×(Unit×Unit)))
abbrev T6:Type:=(PR (T0×(Syntax×Unit)) (T0×(Unit×Unit)))
abbrev T8:Type:=(Unit×((Syntax×Unit)×((Int×Unit)×((Int×Unit)×T0))))
abbrev T9:Type:=(Unit×(T3×Unit))
abbrev Ta:Type:=(Unit×((List Syntax)×(T3×Unit)))
abbrev Tb:Type:=(Notation×(List Syntax)×Bool)
abbrev Tc:Type:=(T9×(Notation×((List Syntax)×(Bool×Unit))))
abbrev Td:Type:=((List Syntax)×Unit)
abbrev Te:Type:=((Unit×Int)×(Unit×(T5×Unit)))
abbrev Tf:Type:=(List mT)
abbrev Tg:Type:=(T9×(Int×Unit))
abbrev Th:Type:=(Notation×(Int×((List Syntax)×(Int×Unit))))
abbrev Ti:Type:=(T9×(Bool×Unit))
abbrev Tj:Type:=(T7×(Str×((List Str)×Unit)))
abbrev Tk:Type:=(T7×(Int×Unit))
abbrev Tl:Type:=((List Syntax)×Int)
abbrev Tm:Type:=(PR (Unit×Unit) (T7×Unit))
abbrev Tn:Type:=((List Syntax)×Bool)
abbrev To:Type:=(Notation×(Int×(Syntax×Unit)))
abbrev Tp:Type:=(Unit×(Unit×(T5×Unit)))
abbrev Tq:Type:=(Str→(List Str)→(List Str)→Int→Int→Int→T3→T3→T5→Notation→Option Tk)
abbrev Ts:Type:=(T0×(Str×(Bool×Unit)))
abbrev Tt:Type:=((List Notation)×Unit)
abbrev Tu:Type:=((List Notation)→(List Syntax)→Int→Syntax→Option Tb)
abbrev Tv:Type:=(Str→Int→Int→Int→(List Str)→Option (List Str))
abbrev Tw:Type:=(Te×(Bool×Unit))
abbrev Tx:Type:=((T5×Unit)×Unit)
abbrev Tz:Type:=(Syntax×Int×Int)
abbrev TA:Type:=(Str→Int→Int→(List Str)→Option (List Str))
end Go.Abs
