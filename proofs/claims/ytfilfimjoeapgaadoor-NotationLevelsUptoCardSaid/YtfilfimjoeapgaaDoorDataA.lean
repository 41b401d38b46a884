/- A part of the proof: the data of the program. -/
import Derived.Test.YtfilfimjoeapgaaDoorCoreC
import Derived.Test.YtfilfimjoeapgaaDoorCoreD
import Derived.Test.YtfilfimjoeapgaaDoorProg
import Derived.KernelRfl
set_option linter.all false
open Option renaming bind_eq_some_iff → gZ
open Option.some renaming injEq → hJ
open Bool renaming true_or → hO
open ByteArray renaming empty → hU
open List renaming take → ia,drop → ig,map_cons → ij
namespace Go.Abs
set_option maxRecDepth 10000
theorem Zu (n:Nat) (x:Int):nbL n (Ly x):=⟨trivial,trivial⟩
theorem ucell_nb (n:Nat) (x:Int):nbL n (Si x):=⟨trivial,trivial⟩
theorem Oz (n:Nat) (x:Str):nbL n (n4 x):=⟨trivial,trivial⟩
theorem Zv (n:Nat) (x:Bool):nbL n (Og x):=⟨trivial,trivial⟩
theorem ud {α:Type} {f:α→List AV} {n:Nat} (h: ∀x,nbL n (f x)): ∀xs:List α,GJ n (mp f xs)
 |[]=>by rw[uc];trivial
 |x::xs=>by have:=ud h xs;rw[uc] at this ⊢;exact ⟨h x,this⟩
theorem C6 {cs:List AV} {n:Nat} (h:cs.length=n):qo true n cs=some (.agg cs):=by
 simp only[qo,←h,Nat.le_refl,if_true,List.take_length]
theorem cell_nbs:(∀ (n:Nat) (xs:List Int),GJ n (mp Ly xs)=True)∧(∀ (n:Nat) (xs:List Int),GJ n (mp Si xs)=True)∧(∀ (n:Nat) (xs:List Str),GJ n (mp n4 xs)=True)∧ ∀ (n:Nat) (xs:List Bool),GJ n (mp Og xs)=True:=⟨fun n xs=>eq_true (ud (Zu n) xs),fun n xs=>eq_true (ud (ucell_nb n) xs),fun n xs=>eq_true (ud (Oz n) xs),fun n xs=>eq_true (ud (Zv n) xs)⟩
theorem cell_rens:(∀ (ρ:Nat→Nat) (xs:List Int),Bw ρ (mp Ly xs)=mp Ly xs)∧(∀ (ρ:Nat→Nat) (xs:List Str),Bw ρ (mp n4 xs)=mp n4 xs)∧ ∀ (ρ:Nat→Nat) (xs:List Bool),Bw ρ (mp Og xs)=mp Og xs:=⟨fun ρ xs=>vG ρ _ (ud (Zu 0) xs),fun ρ xs=>vG ρ _ (ud (Oz 0) xs),fun ρ xs=>vG ρ _ (ud (Zv 0) xs)⟩
attribute [go_sem] Ly n4 Og Si cell_nbs cell_rens
theorem ue {α β:Type} {f:β→Option α} {g:α→β} (h: ∀x,f (g x)=some x): ∀ (xs:List α) (i:Nat) (r:β),mapO f ((mp g xs).set i r)=bif decide (i<xs.length) then (f r).bind fun y=>some (xs.set i y) else some xs:=by
 intro xs
 rw[uc]
 induction xs with
 |nil=>intro i r;simp [mapO]
 |cons x xs ih=>
  intro i r
  cases i with
  |zero=>
   simp only[ij,List.set_cons_zero,mapO,Sf h,List.length_cons,Nat.zero_lt_succ,decide_true,cond_true]
   cases f r<;>rfl
  |succ i=>
   simp only[ij,List.set_cons_succ,mapO,h,ih i r,List.length_cons,Nat.succ_lt_succ_iff,Option.bind_some]
   by_cases hi:i<xs.length
   ·simp only[hi,decide_true,cond_true];cases f r<;>rfl
   ·simp only[hi,decide_false,cond_false];rfl
theorem mapO_set1:(∀ (xs:List Int) (i:Nat) (r:List AV),mapO (YB .i64) ((mp Ly xs).set i r)=bif decide (i<xs.length) then (YB .i64 r).bind fun y=>some (xs.set i y) else some xs)∧(∀ (xs:List Bool) (i:Nat) (r:List AV),mapO dB1 ((mp Og xs).set i r)=bif decide (i<xs.length) then (dB1 r).bind fun y=>some (xs.set i y) else some xs)∧(∀ (xs:List Str) (i:Nat) (r:List AV),mapO dS1 ((mp n4 xs).set i r)=bif decide (i<xs.length) then (dS1 r).bind fun y=>some (xs.set i y) else some xs):=⟨ue fun x=>by simp [YB,Ly,dI],ue fun x=>rfl,ue fun x=>rfl⟩
attribute [go_sem] mapO_set1
theorem VD {α β:Type} {f:β→Option α} {z:β}: ∀n:Nat,mapO f (List.replicate n z)=bif n==0 then some [] else (f z).bind fun y=>some (List.replicate n y)
 |0=>rfl
 |n+1=>by
  simp only[List.replicate_succ,mapO,VD n]
  cases f z with
  |none=>rfl
  |some y=>cases n<;>rfl
attribute [go_sem] VD
theorem lst_of {β:Type} {t:Bool} {z k:Nat} {r vF:List (List AV)} {o:Option β} {x:β} (hok:o=some x→J7 r vF) (h:(bif EW z k r then o else none)=some x):Sub (.nE t z r) (.nE false k vF):=by
 cases hs:EW z k r with
 |false=>simp [hs] at h
 |true=>rw[hs] at h;exact Ka hs (hok h)
structure Notation where
 parts:List Str
 level:Int
 assoc:Int
 target:Str
def Notation.cells (x:Notation):List AV:=[.nE false 1 (mp n4 x.parts),.int .i64 x.level,.int .i64 x.assoc,.str (sb x.target)]
theorem Notation.rH (x:Notation):x.cells=[.nE false 1 (mp n4 x.parts),.int .i64 x.level,.int .i64 x.assoc,.str (sb x.target)]:=rfl
theorem Notation.cells_eq (x:Notation):x.cells=[.nE false 1 (mp n4 x.parts),.int .i64 x.level,.int .i64 x.assoc,.str (sb x.target)]:=rfl
attribute [irreducible] Notation.cells
theorem Notation.length (x:Notation):x.cells.length=4:=by rw[Notation.cells_eq];rfl
theorem Notation.scalar (x:Notation):x.cells.all AV.scalar=true:=by rw[Notation.cells_eq];rfl
theorem Notation.nb (n:Nat) (x:Notation):nbL n x.cells:=by
 rw[Notation.rH]
 exact ⟨ud (Oz n) _,trivial,trivial,trivial,trivial⟩
def Notation.of (H:List AObj):List AV→Option Notation
 |[c0,c1,c2,c3]=>(dL p8 H c0).bind fun x0=>(dI .i64 c1).bind fun x1=>(dI .i64 c2).bind fun x2=>(dS c3).bind fun x3=>some (.mk x0 x1 x2 x3)
 |_=>none
theorem Notation.zX {H:List AObj} {c0 c1 c2 c3:AV}:Notation.of H [c0,c1,c2,c3]=(dL p8 H c0).bind fun x0=>(dI .i64 c1).bind fun x1=>(dI .i64 c2).bind fun x2=>(dS c3).bind fun x3=>some (.mk x0 x1 x2 x3):=rfl
theorem Notation.uf (H:List AObj) (x:Notation):Notation.of H [.nE false 1 (mp n4 x.parts),.int .i64 x.level,.int .i64 x.assoc,.str (sb x.target)]=some x:=by
 simp only[Notation.zX,Kb,GB,Of,zi,EW,beq_self_eq_true,hO,cond_true,dL,FF,Sj]
 try (cases x;rfl)
theorem Notation.sJ (H:List AObj) (x:Notation):Notation.of H x.cells=some x:=by rw[Notation.cells_eq];exact Notation.uf H x
theorem Notation.Du {H:List AObj} {n:Nat} {cs:List AV} {x:Notation} (h:Notation.of H cs=some x):sW H n cs x.cells:=by
 unfold Notation.of at h
 split at h
 ·simp only[gZ,hJ] at h
  obtain ⟨x0,h0,x1,h1,x2,h2,x3,h3,rfl⟩:=h
  rw[Notation.rH]
  exact (sW.cons (Jt h0) (sW.cons (Ds h1) (sW.cons (Ds h2) (sW.cons (Sh h3) sW.nil))))
 ·cases h
def Notation.cel:Mn Notation:=⟨Notation.cells,Notation.of,fun _ _ _ _ h=>Notation.Du h,Notation.nb⟩
def Notation.row:Row Notation:=⟨Notation.cells,Notation.of [],4,fun _ _ h=>(Notation.Du (n:=0) h).toSub,Notation.nb⟩
theorem Notation.sK (xs:List Notation):mapO (Notation.of []) (mp Notation.cells xs)=some xs:=B8 (Notation.sJ []) xs
theorem Notation.ue (xs:List Notation) (i:Nat) (r:List AV):mapO (Notation.of []) ((mp Notation.cells xs).set i r)=bif decide (i<xs.length) then (Notation.of [] r).bind fun y=>some (xs.set i y) else some xs:=Go.Abs.ue (Notation.sJ []) xs i r
attribute [go_sem low] Notation.ue
theorem Notation.JA:Notation.row.enc=Notation.cells∧Notation.row.dec=Notation.of []∧Notation.row.sz=4∧Notation.cel.enc=Notation.cells∧Notation.cel.dec=Notation.of:=⟨rfl,rfl,rfl,rfl,rfl⟩
theorem Notation.eta (x:Notation):Notation.mk x.parts x.level x.assoc x.target=x:=by cases x;rfl
attribute [go_sem] Notation.zX Notation.sJ Notation.sK Notation.JA Notation.eta
theorem Notation.prj:(∀ (y0:List Str) (y1:Int) (y2:Int) (y3:Str),(Notation.mk y0 y1 y2 y3).parts=y0)∧(∀ (y0:List Str) (y1:Int) (y2:Int) (y3:Str),(Notation.mk y0 y1 y2 y3).level=y1)∧(∀ (y0:List Str) (y1:Int) (y2:Int) (y3:Str),(Notation.mk y0 y1 y2 y3).assoc=y2)∧(∀ (y0:List Str) (y1:Int) (y2:Int) (y3:Str),(Notation.mk y0 y1 y2 y3).target=y3):=⟨fun _ _ _ _=>rfl,fun _ _ _ _=>rfl,fun _ _ _ _=>rfl,fun _ _ _ _=>rfl⟩
attribute [go_sem] Notation.prj
theorem Notation.nbs:(∀ (n:Nat) (x:Notation),Go.Abs.nbL n x.cells=True)∧ ∀ (n:Nat) (xs:List Notation),Go.Abs.GJ n (mp Notation.cells xs)=True:=⟨fun n x=>eq_true (Notation.nb n x),fun n xs=>eq_true (ud (Notation.nb n) xs)⟩
theorem Notation.Pz:(∀ (ρ:Nat→Nat) (x:Notation),renL ρ x.cells=x.cells)∧ ∀ (ρ:Nat→Nat) (xs:List Notation),Bw ρ (mp Notation.cells xs)=mp Notation.cells xs:=⟨fun ρ x=>tR ρ _ (Notation.nb 0 x),fun ρ xs=>vG ρ _ (ud (Notation.nb 0) xs)⟩
theorem Notation.vw (H:List AObj) (x:Notation):NT H x.cells=some (x.cells,[]):=Dt H _ (Notation.nb 0 x)
attribute [go_sem] Notation.vw
theorem Notation.O1 (low:Nat) (H:List AObj) (x:Notation):Ny low H x.cells=x.cells:=zg low H _ (Notation.nb 0 x)
theorem Notation.rpv (l:Nat) (ds:List AV) (x:Notation):x.cells.map (Z5 l ds)=x.cells:=BE _ (Notation.nb 0 x)
attribute [go_sem] Notation.rpv
theorem Notation.tk:(∀x:Notation,ia 4 x.cells=x.cells)∧ ∀x:Notation,ig 4 x.cells=[]:=⟨fun x=>by rw[Notation.cells_eq];rfl,fun x=>by rw[Notation.cells_eq];rfl⟩
attribute [go_sem] Notation.tk
theorem Notation.reads:
 (∀x:Notation,cellsOf (.agg x.cells)=some x.cells)∧
 (∀x:Notation,qo true 4 x.cells=some (.agg x.cells))∧
 (∀x:Notation,qo false 1 x.cells=some (.nE false 1 (mp n4 x.parts)))∧
 (∀x:Notation,qo false 1 (x.cells.drop 1)=some (.int .i64 x.level))∧
 (∀x:Notation,qo false 1 (x.cells.drop 2)=some (.int .i64 x.assoc))∧
 (∀x:Notation,qo false 1 (x.cells.drop 3)=some (.str (sb x.target))):=
 ⟨fun x=>by simp only[cellsOf,Notation.scalar,if_true],
  fun x=>C6 (Notation.length x),
  fun x=>by rw[Notation.cells_eq];rfl,
  fun x=>by rw[Notation.cells_eq];rfl,
  fun x=>by rw[Notation.cells_eq];rfl,
  fun x=>by rw[Notation.cells_eq];rfl⟩
theorem Notation.PA (x:Notation) (o:Nat) (xs:List AV):splice x.cells o xs=splice [.nE false 1 (mp n4 x.parts),.int .i64 x.level,.int .i64 x.assoc,.str (sb x.target)] o xs:=by rw[Notation.cells_eq]
theorem Notation.JB (x:Notation) (o:Nat) (c:AV) (cs:List AV):splice (c::cs) o x.cells=splice (c::cs) o [.nE false 1 (mp n4 x.parts),.int .i64 x.level,.int .i64 x.assoc,.str (sb x.target)]:=by rw[Notation.cells_eq]
theorem Notation.app (x:Notation) (l:List AV):x.cells++l=(.nE false 1 (mp n4 x.parts):AV)::(.int .i64 x.level:AV)::(.int .i64 x.assoc:AV)::(.str (sb x.target):AV)::l:=by rw[Notation.cells_eq];rfl
theorem Notation.cns (x:Notation) (c:AV):c::x.cells=[c,.nE false 1 (mp n4 x.parts),.int .i64 x.level,.int .i64 x.assoc,.str (sb x.target)]:=by rw[Notation.cells_eq]
attribute [go_sem] Notation.app Notation.cns
attribute [go_sem] Notation.nbs Notation.Pz Notation.O1 Notation.reads Notation.length Notation.scalar
attribute [go_sem low] Notation.PA Notation.JB
structure mT where
 name:Str
 plus:Int
def mT.cells (x:mT):List AV:=[.str (sb x.name),.int .i64 x.plus]
theorem mT.rH (x:mT):x.cells=[.str (sb x.name),.int .i64 x.plus]:=rfl
theorem mT.cells_eq (x:mT):x.cells=[.str (sb x.name),.int .i64 x.plus]:=rfl
attribute [irreducible] mT.cells
theorem mT.length (x:mT):x.cells.length=2:=by rw[mT.cells_eq];rfl
theorem mT.scalar (x:mT):x.cells.all AV.scalar=true:=by rw[mT.cells_eq];rfl
theorem mT.nb (n:Nat) (x:mT):nbL n x.cells:=by
 rw[mT.rH]
 exact ⟨trivial,trivial,trivial⟩
def mT.of (H:List AObj):List AV→Option mT
 |[c0,c1]=>(dS c0).bind fun x0=>(dI .i64 c1).bind fun x1=>some (.mk x0 x1)
 |_=>none
theorem mT.zX {H:List AObj} {c0 c1:AV}:mT.of H [c0,c1]=(dS c0).bind fun x0=>(dI .i64 c1).bind fun x1=>some (.mk x0 x1):=rfl
theorem mT.uf (H:List AObj) (x:mT):mT.of H [.str (sb x.name),.int .i64 x.plus]=some x:=by
 simp only[mT.zX,Kb,GB,Of,zi,EW,beq_self_eq_true,hO,cond_true,dL]
 try (cases x;rfl)
theorem mT.sJ (H:List AObj) (x:mT):mT.of H x.cells=some x:=by rw[mT.cells_eq];exact mT.uf H x
theorem mT.Du {H:List AObj} {n:Nat} {cs:List AV} {x:mT} (h:mT.of H cs=some x):sW H n cs x.cells:=by
 unfold mT.of at h
 split at h
 ·simp only[gZ,hJ] at h
  obtain ⟨x0,h0,x1,h1,rfl⟩:=h
  rw[mT.rH]
  exact (sW.cons (Sh h0) (sW.cons (Ds h1) sW.nil))
 ·cases h
def mT.cel:Mn mT:=⟨mT.cells,mT.of,fun _ _ _ _ h=>mT.Du h,mT.nb⟩
def mT.row:Row mT:=⟨mT.cells,mT.of [],2,fun _ _ h=>(mT.Du (n:=0) h).toSub,mT.nb⟩
theorem mT.sK (xs:List mT):mapO (mT.of []) (mp mT.cells xs)=some xs:=B8 (mT.sJ []) xs
theorem mT.ue (xs:List mT) (i:Nat) (r:List AV):mapO (mT.of []) ((mp mT.cells xs).set i r)=bif decide (i<xs.length) then (mT.of [] r).bind fun y=>some (xs.set i y) else some xs:=Go.Abs.ue (mT.sJ []) xs i r
attribute [go_sem low] mT.ue
theorem mT.JA:mT.row.enc=mT.cells∧mT.row.dec=mT.of []∧mT.row.sz=2∧mT.cel.enc=mT.cells∧mT.cel.dec=mT.of:=⟨rfl,rfl,rfl,rfl,rfl⟩
theorem mT.eta (x:mT):mT.mk x.name x.plus=x:=by cases x;rfl
attribute [go_sem] mT.zX mT.sJ mT.sK mT.JA mT.eta
theorem mT.prj:(∀ (y0:Str) (y1:Int),(mT.mk y0 y1).name=y0)∧(∀ (y0:Str) (y1:Int),(mT.mk y0 y1).plus=y1):=⟨fun _ _=>rfl,fun _ _=>rfl⟩
attribute [go_sem] mT.prj
theorem mT.nbs:(∀ (n:Nat) (x:mT),Go.Abs.nbL n x.cells=True)∧ ∀ (n:Nat) (xs:List mT),Go.Abs.GJ n (mp mT.cells xs)=True:=⟨fun n x=>eq_true (mT.nb n x),fun n xs=>eq_true (ud (mT.nb n) xs)⟩
theorem mT.Pz:(∀ (ρ:Nat→Nat) (x:mT),renL ρ x.cells=x.cells)∧ ∀ (ρ:Nat→Nat) (xs:List mT),Bw ρ (mp mT.cells xs)=mp mT.cells xs:=⟨fun ρ x=>tR ρ _ (mT.nb 0 x),fun ρ xs=>vG ρ _ (ud (mT.nb 0) xs)⟩
theorem mT.vw (H:List AObj) (x:mT):NT H x.cells=some (x.cells,[]):=Dt H _ (mT.nb 0 x)
attribute [go_sem] mT.vw
theorem mT.O1 (low:Nat) (H:List AObj) (x:mT):Ny low H x.cells=x.cells:=zg low H _ (mT.nb 0 x)
theorem mT.rpv (l:Nat) (ds:List AV) (x:mT):x.cells.map (Z5 l ds)=x.cells:=BE _ (mT.nb 0 x)
attribute [go_sem] mT.rpv
theorem mT.tk:(∀x:mT,ia 2 x.cells=x.cells)∧ ∀x:mT,ig 2 x.cells=[]:=⟨fun x=>by rw[mT.cells_eq];rfl,fun x=>by rw[mT.cells_eq];rfl⟩
attribute [go_sem] mT.tk
theorem mT.reads:
 (∀x:mT,cellsOf (.agg x.cells)=some x.cells)∧
 (∀x:mT,qo true 2 x.cells=some (.agg x.cells))∧
 (∀x:mT,qo false 1 x.cells=some (.str (sb x.name)))∧
 (∀x:mT,qo false 1 (x.cells.drop 1)=some (.int .i64 x.plus)):=
 ⟨fun x=>by simp only[cellsOf,mT.scalar,if_true],
  fun x=>C6 (mT.length x),
  fun x=>by rw[mT.cells_eq];rfl,
  fun x=>by rw[mT.cells_eq];rfl⟩
theorem mT.PA (x:mT) (o:Nat) (xs:List AV):splice x.cells o xs=splice [.str (sb x.name),.int .i64 x.plus] o xs:=by rw[mT.cells_eq]
theorem mT.JB (x:mT) (o:Nat) (c:AV) (cs:List AV):splice (c::cs) o x.cells=splice (c::cs) o [.str (sb x.name),.int .i64 x.plus]:=by rw[mT.cells_eq]
theorem mT.app (x:mT) (l:List AV):x.cells++l=(.str (sb x.name):AV)::(.int .i64 x.plus:AV)::l:=by rw[mT.cells_eq];rfl
theorem mT.cns (x:mT) (c:AV):c::x.cells=[c,.str (sb x.name),.int .i64 x.plus]:=by rw[mT.cells_eq]
attribute [go_sem] mT.app mT.cns
attribute [go_sem] mT.nbs mT.Pz mT.O1 mT.reads mT.length mT.scalar
attribute [go_sem low] mT.PA mT.JB
structure mP where
 hole:Bool
 atoms:List mT
def mP.cells (x:mP):List AV:=[.bool x.hole,.nE false 2 (mp mT.cells x.atoms)]
theorem mP.rH (x:mP):x.cells=[.bool x.hole,.nE false 2 (mp mT.cells x.atoms)]:=rfl
theorem mP.cells_eq (x:mP):x.cells=[.bool x.hole,.nE false 2 (mp mT.cells x.atoms)]:=rfl
attribute [irreducible] mP.cells
theorem mP.length (x:mP):x.cells.length=2:=by rw[mP.cells_eq];rfl
theorem mP.scalar (x:mP):x.cells.all AV.scalar=true:=by rw[mP.cells_eq];rfl
theorem mP.nb (n:Nat) (x:mP):nbL n x.cells:=by
 rw[mP.rH]
 exact ⟨trivial,ud (mT.nb n) _,trivial⟩
def mP.of (H:List AObj):List AV→Option mP
 |[c0,c1]=>(dB c0).bind fun x0=>(dL mT.row H c1).bind fun x1=>some (.mk x0 x1)
 |_=>none
theorem mP.zX {H:List AObj} {c0 c1:AV}:mP.of H [c0,c1]=(dB c0).bind fun x0=>(dL mT.row H c1).bind fun x1=>some (.mk x0 x1):=rfl
theorem mP.uf (H:List AObj) (x:mP):mP.of H [.bool x.hole,.nE false 2 (mp mT.cells x.atoms)]=some x:=by
 simp only[mP.zX,Kb,GB,Of,zi,EW,beq_self_eq_true,hO,cond_true,dL,mT.sK,mT.row]
 try (cases x;rfl)
theorem mP.sJ (H:List AObj) (x:mP):mP.of H x.cells=some x:=by rw[mP.cells_eq];exact mP.uf H x
theorem mP.Du {H:List AObj} {n:Nat} {cs:List AV} {x:mP} (h:mP.of H cs=some x):sW H n cs x.cells:=by
 unfold mP.of at h
 split at h
 ·simp only[gZ,hJ] at h
  obtain ⟨x0,h0,x1,h1,rfl⟩:=h
  rw[mP.rH]
  exact (sW.cons (YA h0) (sW.cons (Jt h1) sW.nil))
 ·cases h
def mP.cel:Mn mP:=⟨mP.cells,mP.of,fun _ _ _ _ h=>mP.Du h,mP.nb⟩
def mP.row:Row mP:=⟨mP.cells,mP.of [],2,fun _ _ h=>(mP.Du (n:=0) h).toSub,mP.nb⟩
theorem mP.sK (xs:List mP):mapO (mP.of []) (mp mP.cells xs)=some xs:=B8 (mP.sJ []) xs
theorem mP.ue (xs:List mP) (i:Nat) (r:List AV):mapO (mP.of []) ((mp mP.cells xs).set i r)=bif decide (i<xs.length) then (mP.of [] r).bind fun y=>some (xs.set i y) else some xs:=Go.Abs.ue (mP.sJ []) xs i r
attribute [go_sem low] mP.ue
theorem mP.JA:mP.row.enc=mP.cells∧mP.row.dec=mP.of []∧mP.row.sz=2∧mP.cel.enc=mP.cells∧mP.cel.dec=mP.of:=⟨rfl,rfl,rfl,rfl,rfl⟩
theorem mP.eta (x:mP):mP.mk x.hole x.atoms=x:=by cases x;rfl
attribute [go_sem] mP.zX mP.sJ mP.sK mP.JA mP.eta
theorem mP.prj:(∀ (y0:Bool) (y1:List mT),(mP.mk y0 y1).hole=y0)∧(∀ (y0:Bool) (y1:List mT),(mP.mk y0 y1).atoms=y1):=⟨fun _ _=>rfl,fun _ _=>rfl⟩
attribute [go_sem] mP.prj
theorem mP.nbs:(∀ (n:Nat) (x:mP),Go.Abs.nbL n x.cells=True)∧ ∀ (n:Nat) (xs:List mP),Go.Abs.GJ n (mp mP.cells xs)=True:=⟨fun n x=>eq_true (mP.nb n x),fun n xs=>eq_true (ud (mP.nb n) xs)⟩
theorem mP.Pz:(∀ (ρ:Nat→Nat) (x:mP),renL ρ x.cells=x.cells)∧ ∀ (ρ:Nat→Nat) (xs:List mP),Bw ρ (mp mP.cells xs)=mp mP.cells xs:=⟨fun ρ x=>tR ρ _ (mP.nb 0 x),fun ρ xs=>vG ρ _ (ud (mP.nb 0) xs)⟩
theorem mP.vw (H:List AObj) (x:mP):NT H x.cells=some (x.cells,[]):=Dt H _ (mP.nb 0 x)
attribute [go_sem] mP.vw
theorem mP.O1 (low:Nat) (H:List AObj) (x:mP):Ny low H x.cells=x.cells:=zg low H _ (mP.nb 0 x)
theorem mP.rpv (l:Nat) (ds:List AV) (x:mP):x.cells.map (Z5 l ds)=x.cells:=BE _ (mP.nb 0 x)
attribute [go_sem] mP.rpv
theorem mP.tk:(∀x:mP,ia 2 x.cells=x.cells)∧ ∀x:mP,ig 2 x.cells=[]:=⟨fun x=>by rw[mP.cells_eq];rfl,fun x=>by rw[mP.cells_eq];rfl⟩
attribute [go_sem] mP.tk
theorem mP.reads:
 (∀x:mP,cellsOf (.agg x.cells)=some x.cells)∧
 (∀x:mP,qo true 2 x.cells=some (.agg x.cells))∧
 (∀x:mP,qo false 1 x.cells=some (.bool x.hole))∧
 (∀x:mP,qo false 1 (x.cells.drop 1)=some (.nE false 2 (mp mT.cells x.atoms))):=
 ⟨fun x=>by simp only[cellsOf,mP.scalar,if_true],
  fun x=>C6 (mP.length x),
  fun x=>by rw[mP.cells_eq];rfl,
  fun x=>by rw[mP.cells_eq];rfl⟩
theorem mP.PA (x:mP) (o:Nat) (xs:List AV):splice x.cells o xs=splice [.bool x.hole,.nE false 2 (mp mT.cells x.atoms)] o xs:=by rw[mP.cells_eq]
theorem mP.JB (x:mP) (o:Nat) (c:AV) (cs:List AV):splice (c::cs) o x.cells=splice (c::cs) o [.bool x.hole,.nE false 2 (mp mT.cells x.atoms)]:=by rw[mP.cells_eq]
theorem mP.app (x:mP) (l:List AV):x.cells++l=(.bool x.hole:AV)::(.nE false 2 (mp mT.cells x.atoms):AV)::l:=by rw[mP.cells_eq];rfl
theorem mP.cns (x:mP) (c:AV):c::x.cells=[c,.bool x.hole,.nE false 2 (mp mT.cells x.atoms)]:=by rw[mP.cells_eq]
attribute [go_sem] mP.app mP.cns
attribute [go_sem] mP.nbs mP.Pz mP.O1 mP.reads mP.length mP.scalar
attribute [go_sem low] mP.PA mP.JB
inductive Syntax where
 |mk (kind:Int) (text:Str) (num:Int) (names:List Str) (levels:List mP) (kids:List Syntax) (from_:Int) (to:Int)
def Syntax.kind:Syntax→Int| .mk x _ _ _ _ _ _ _=>x
def Syntax.text:Syntax→Str| .mk _ x _ _ _ _ _ _=>x
def Syntax.num:Syntax→Int| .mk _ _ x _ _ _ _ _=>x
def Syntax.names:Syntax→List Str| .mk _ _ _ x _ _ _ _=>x
def Syntax.levels:Syntax→List mP| .mk _ _ _ _ x _ _ _=>x
def Syntax.kids:Syntax→List Syntax| .mk _ _ _ _ _ x _ _=>x
def Syntax.from_:Syntax→Int| .mk _ _ _ _ _ _ x _=>x
def Syntax.to:Syntax→Int| .mk _ _ _ _ _ _ _ x=>x
mutual
def Syntax.cells:Syntax→List AV
 | .mk kind text num names levels kids from_ to=>[.int .i64 kind,.str (sb text),.int .i64 num,.nE false 1 (mp n4 names),.nE false 2 (mp mP.cells levels),.nE false 8 (Syntax.cellsL kids),.int .i64 from_,.int .i64 to]
def Syntax.cellsL:List Syntax→List (List AV)
 |[]=>[]
 |t::ts=>t.cells::Syntax.cellsL ts
end
theorem Syntax.cellsL_eq: ∀ts:List Syntax,Syntax.cellsL ts=mp Syntax.cells ts
 |[]=>by rw[uc];rfl
 |t::ts=>by rw[Syntax.cellsL,Syntax.cellsL_eq ts,uc,uc];rfl
theorem Syntax.rH (x:Syntax):x.cells=[.int .i64 x.kind,.str (sb x.text),.int .i64 x.num,.nE false 1 (mp n4 x.names),.nE false 2 (mp mP.cells x.levels),.nE false 8 (mp Syntax.cells x.kids),.int .i64 x.from_,.int .i64 x.to]:=by
 cases x
 simp only[Syntax.cells,Syntax.cellsL_eq]
 rfl
theorem Syntax.cells_eq (x:Syntax):x.cells=[.int .i64 x.kind,.str (sb x.text),.int .i64 x.num,.nE false 1 (mp n4 x.names),.nE false 2 (mp mP.cells x.levels),.nE false 8 (mp Syntax.cells x.kids),.int .i64 x.from_,.int .i64 x.to]:=by
 cases x
 simp only[Syntax.cells,Syntax.cellsL_eq,List.cons_append,List.nil_append,List.append_nil]
 rfl
attribute [irreducible] Syntax.cells
theorem Syntax.length (x:Syntax):x.cells.length=8:=by rw[Syntax.cells_eq];rfl
theorem Syntax.scalar (x:Syntax):x.cells.all AV.scalar=true:=by rw[Syntax.cells_eq];rfl
mutual
theorem Syntax.nb (n:Nat): ∀x:Syntax,nbL n x.cells
 | .mk kind text num names levels kids from_ to=>by
   rw[Syntax.rH]
   exact ⟨trivial,trivial,trivial,ud (Oz n) _,ud (mP.nb n) _,Syntax.GJ n kids,trivial,trivial,trivial⟩
theorem Syntax.GJ (n:Nat): ∀ts:List Syntax,GJ n (mp Syntax.cells ts)
 |[]=>by rw[uc];trivial
 |t::ts=>by have:=Syntax.GJ n ts;rw[uc] at this ⊢;exact ⟨Syntax.nb n t,this⟩
end
mutual
def Syntax.of0:List AV→Option Syntax
 |[c0,c1,c2,c3,c4,.nE _ z5 r5,c6,c7]=>(dI .i64 c0).bind fun x0=>(dS c1).bind fun x1=>(dI .i64 c2).bind fun x2=>(dL p8 [] c3).bind fun x3=>(dL mP.row [] c4).bind fun x4=>(bif EW z5 8 r5 then Syntax.ofR r5 else none).bind fun x5=>(dI .i64 c6).bind fun x6=>(dI .i64 c7).bind fun x7=>some (.mk x0 x1 x2 x3 x4 x5 x6 x7)
 |_=>none
def Syntax.ofR:List (List AV)→Option (List Syntax)
 |[]=>some []
 |r::rs=>(Syntax.of0 r).bind fun x=>(Syntax.ofR rs).bind fun xs=>some (x::xs)
end
theorem Syntax.ofR_eq: ∀rs,Syntax.ofR rs=mapO Syntax.of0 rs
 |[]=>by simp only[Syntax.ofR,mapO]
 |r::rs=>by simp only[Syntax.ofR,mapO,Syntax.ofR_eq rs]
mutual
theorem Syntax.Mt: ∀x:Syntax,Syntax.of0 x.cells=some x
 | .mk kind text num names levels kids from_ to=>by
   rw[Syntax.cells_eq]
   show Syntax.of0 [.int .i64 kind,.str (sb text),.int .i64 num,.nE false 1 (mp n4 names),.nE false 2 (mp mP.cells levels),.nE false 8 (mp Syntax.cells kids),.int .i64 from_,.int .i64 to]=_
   simp only[Syntax.of0,Kb,GB,Of,zi,EW,beq_self_eq_true,hO,cond_true,dL,Syntax.VE kids,mP.sK,mP.row,FF,Sj]
theorem Syntax.VE: ∀xs:List Syntax,Syntax.ofR (mp Syntax.cells xs)=some xs
 |[]=>by rw[uc];simp only[List.map_nil,Syntax.ofR]
 |x::xs=>by have h:=Syntax.VE xs;rw[uc] at h ⊢;simp only[ij,Syntax.ofR,Syntax.Mt x,h,zi]
end
mutual
theorem Syntax.of0_ok: ∀ (x:Syntax) (r:List AV),Syntax.of0 r=some x→zB r x.cells
 | .mk kind text num names levels kids from_ to,r,h=>by
   unfold Syntax.of0 at h
   split at h
   ·simp only[gZ,hJ,Syntax.mk.injEq] at h
    obtain ⟨x0,h0,x1,h1,x2,h2,x3,h3,x4,h4,x5,h5,x6,h6,x7,h7,e0,e1,e2,e3,e4,e5,e6,e7⟩:=h
    rw[e0] at h0
    rw[e1] at h1
    rw[e2] at h2
    rw[e3] at h3
    rw[e4] at h4
    rw[e5] at h5
    rw[e6] at h6
    rw[e7] at h7
    rw[Syntax.rH]
    exact (zB.cons ((Ds (H:=[]) (n:=0) h0).toSub) (zB.cons ((Sh (H:=[]) (n:=0) h1).toSub) (zB.cons ((Ds (H:=[]) (n:=0) h2).toSub) (zB.cons ((Jt (H:=[]) (n:=0) h3).toSub) (zB.cons ((Jt (H:=[]) (n:=0) h4).toSub) (zB.cons (lst_of (Syntax.ofR_ok kids _) h5) (zB.cons ((Ds (H:=[]) (n:=0) h6).toSub) (zB.cons ((Ds (H:=[]) (n:=0) h7).toSub) zB.nil))))))))
   ·cases h
theorem Syntax.ofR_ok: ∀ (xs:List Syntax) (rs:List (List AV)),Syntax.ofR rs=some xs→J7 rs (mp Syntax.cells xs)
 |[],rs,h=>by
  cases rs with
  |nil=>rw[uc];exact J7.nil
  |cons r rs=>
   simp only[Syntax.ofR,gZ,hJ] at h
   obtain ⟨_,_,_,_,h⟩:=h
   cases h
 |x::xs,rs,h=>by
  cases rs with
  |nil=>simp only[Syntax.ofR,hJ] at h;cases h
  |cons r rs=>
   simp only[Syntax.ofR,gZ,hJ,List.cons.injEq] at h
   obtain ⟨_,hx,_,hys,rfl,rfl⟩:=h
   have h2:=Syntax.ofR_ok _ rs hys
   rw[uc] at h2 ⊢
   exact J7.cons (Syntax.of0_ok _ r hx).subM h2
end
def Syntax.row:Row Syntax:=⟨Syntax.cells,Syntax.of0,8,fun r x h=>Syntax.of0_ok x r h,Syntax.nb⟩
theorem Syntax.sK (xs:List Syntax):mapO Syntax.of0 (mp Syntax.cells xs)=some xs:=B8 Syntax.Mt xs
theorem Syntax.ue (xs:List Syntax) (i:Nat) (r:List AV):mapO Syntax.of0 ((mp Syntax.cells xs).set i r)=bif decide (i<xs.length) then (Syntax.of0 r).bind fun y=>some (xs.set i y) else some xs:=Go.Abs.ue Syntax.Mt xs i r
attribute [go_sem low] Syntax.ue
def Syntax.of (H:List AObj):List AV→Option Syntax
 |[c0,c1,c2,c3,c4,c5,c6,c7]=>(dI .i64 c0).bind fun x0=>(dS c1).bind fun x1=>(dI .i64 c2).bind fun x2=>(dL p8 H c3).bind fun x3=>(dL mP.row H c4).bind fun x4=>(dL Syntax.row H c5).bind fun x5=>(dI .i64 c6).bind fun x6=>(dI .i64 c7).bind fun x7=>some (.mk x0 x1 x2 x3 x4 x5 x6 x7)
 |_=>none
theorem Syntax.zX {H:List AObj} {c0 c1 c2 c3 c4 c5 c6 c7:AV}:Syntax.of H [c0,c1,c2,c3,c4,c5,c6,c7]=(dI .i64 c0).bind fun x0=>(dS c1).bind fun x1=>(dI .i64 c2).bind fun x2=>(dL p8 H c3).bind fun x3=>(dL mP.row H c4).bind fun x4=>(dL Syntax.row H c5).bind fun x5=>(dI .i64 c6).bind fun x6=>(dI .i64 c7).bind fun x7=>some (.mk x0 x1 x2 x3 x4 x5 x6 x7):=rfl
theorem Syntax.uf (H:List AObj) (x:Syntax):Syntax.of H [.int .i64 x.kind,.str (sb x.text),.int .i64 x.num,.nE false 1 (mp n4 x.names),.nE false 2 (mp mP.cells x.levels),.nE false 8 (mp Syntax.cells x.kids),.int .i64 x.from_,.int .i64 x.to]=some x:=by
 simp only[Syntax.zX,Kb,GB,Of,zi,EW,beq_self_eq_true,hO,cond_true,dL,mP.sK,mP.row,Syntax.sK,Syntax.row,FF,Sj]
 try (cases x;rfl)
theorem Syntax.sJ (H:List AObj) (x:Syntax):Syntax.of H x.cells=some x:=by rw[Syntax.cells_eq];exact Syntax.uf H x
theorem Syntax.Du {H:List AObj} {n:Nat} {cs:List AV} {x:Syntax} (h:Syntax.of H cs=some x):sW H n cs x.cells:=by
 unfold Syntax.of at h
 split at h
 ·simp only[gZ,hJ] at h
  obtain ⟨x0,h0,x1,h1,x2,h2,x3,h3,x4,h4,x5,h5,x6,h6,x7,h7,rfl⟩:=h
  rw[Syntax.rH]
  exact (sW.cons (Ds h0) (sW.cons (Sh h1) (sW.cons (Ds h2) (sW.cons (Jt h3) (sW.cons (Jt h4) (sW.cons (Jt h5) (sW.cons (Ds h6) (sW.cons (Ds h7) sW.nil))))))))
 ·cases h
def Syntax.cel:Mn Syntax:=⟨Syntax.cells,Syntax.of,fun _ _ _ _ h=>Syntax.Du h,Syntax.nb⟩
theorem Syntax.JA:Syntax.row.enc=Syntax.cells∧Syntax.row.dec=Syntax.of0∧Syntax.row.sz=8∧Syntax.cel.enc=Syntax.cells∧Syntax.cel.dec=Syntax.of:=⟨rfl,rfl,rfl,rfl,rfl⟩
theorem Syntax.eta (x:Syntax):Syntax.mk x.kind x.text x.num x.names x.levels x.kids x.from_ x.to=x:=by cases x;rfl
attribute [go_sem] Syntax.zX Syntax.sJ Syntax.sK Syntax.JA Syntax.eta
attribute [go_sem] Syntax.of0 Syntax.Mt
attribute [go_sem] Syntax.ofR_eq
theorem Syntax.prj:(∀ (y0:Int) (y1:Str) (y2:Int) (y3:List Str) (y4:List mP) (y5:List Syntax) (y6:Int) (y7:Int),(Syntax.mk y0 y1 y2 y3 y4 y5 y6 y7).kind=y0)∧(∀ (y0:Int) (y1:Str) (y2:Int) (y3:List Str) (y4:List mP) (y5:List Syntax) (y6:Int) (y7:Int),(Syntax.mk y0 y1 y2 y3 y4 y5 y6 y7).text=y1)∧(∀ (y0:Int) (y1:Str) (y2:Int) (y3:List Str) (y4:List mP) (y5:List Syntax) (y6:Int) (y7:Int),(Syntax.mk y0 y1 y2 y3 y4 y5 y6 y7).num=y2)∧(∀ (y0:Int) (y1:Str) (y2:Int) (y3:List Str) (y4:List mP) (y5:List Syntax) (y6:Int) (y7:Int),(Syntax.mk y0 y1 y2 y3 y4 y5 y6 y7).names=y3)∧(∀ (y0:Int) (y1:Str) (y2:Int) (y3:List Str) (y4:List mP) (y5:List Syntax) (y6:Int) (y7:Int),(Syntax.mk y0 y1 y2 y3 y4 y5 y6 y7).levels=y4)∧(∀ (y0:Int) (y1:Str) (y2:Int) (y3:List Str) (y4:List mP) (y5:List Syntax) (y6:Int) (y7:Int),(Syntax.mk y0 y1 y2 y3 y4 y5 y6 y7).kids=y5)∧(∀ (y0:Int) (y1:Str) (y2:Int) (y3:List Str) (y4:List mP) (y5:List Syntax) (y6:Int) (y7:Int),(Syntax.mk y0 y1 y2 y3 y4 y5 y6 y7).from_=y6)∧(∀ (y0:Int) (y1:Str) (y2:Int) (y3:List Str) (y4:List mP) (y5:List Syntax) (y6:Int) (y7:Int),(Syntax.mk y0 y1 y2 y3 y4 y5 y6 y7).to=y7):=⟨fun _ _ _ _ _ _ _ _=>rfl,fun _ _ _ _ _ _ _ _=>rfl,fun _ _ _ _ _ _ _ _=>rfl,fun _ _ _ _ _ _ _ _=>rfl,fun _ _ _ _ _ _ _ _=>rfl,fun _ _ _ _ _ _ _ _=>rfl,fun _ _ _ _ _ _ _ _=>rfl,fun _ _ _ _ _ _ _ _=>rfl⟩
attribute [go_sem] Syntax.prj
theorem Syntax.nbs:(∀ (n:Nat) (x:Syntax),Go.Abs.nbL n x.cells=True)∧ ∀ (n:Nat) (xs:List Syntax),Go.Abs.GJ n (mp Syntax.cells xs)=True:=⟨fun n x=>eq_true (Syntax.nb n x),fun n xs=>eq_true (ud (Syntax.nb n) xs)⟩
theorem Syntax.Pz:(∀ (ρ:Nat→Nat) (x:Syntax),renL ρ x.cells=x.cells)∧ ∀ (ρ:Nat→Nat) (xs:List Syntax),Bw ρ (mp Syntax.cells xs)=mp Syntax.cells xs:=⟨fun ρ x=>tR ρ _ (Syntax.nb 0 x),fun ρ xs=>vG ρ _ (ud (Syntax.nb 0) xs)⟩
theorem Syntax.vw (H:List AObj) (x:Syntax):NT H x.cells=some (x.cells,[]):=Dt H _ (Syntax.nb 0 x)
attribute [go_sem] Syntax.vw
theorem Syntax.O1 (low:Nat) (H:List AObj) (x:Syntax):Ny low H x.cells=x.cells:=zg low H _ (Syntax.nb 0 x)
theorem Syntax.rpv (l:Nat) (ds:List AV) (x:Syntax):x.cells.map (Z5 l ds)=x.cells:=BE _ (Syntax.nb 0 x)
attribute [go_sem] Syntax.rpv
theorem Syntax.tk:(∀x:Syntax,ia 8 x.cells=x.cells)∧ ∀x:Syntax,ig 8 x.cells=[]:=⟨fun x=>by rw[Syntax.cells_eq];rfl,fun x=>by rw[Syntax.cells_eq];rfl⟩
attribute [go_sem] Syntax.tk
theorem Syntax.reads:
 (∀x:Syntax,cellsOf (.agg x.cells)=some x.cells)∧
 (∀x:Syntax,qo true 8 x.cells=some (.agg x.cells))∧
 (∀x:Syntax,qo false 1 x.cells=some (.int .i64 x.kind))∧
 (∀x:Syntax,qo false 1 (x.cells.drop 1)=some (.str (sb x.text)))∧
 (∀x:Syntax,qo false 1 (x.cells.drop 2)=some (.int .i64 x.num))∧
 (∀x:Syntax,qo false 1 (x.cells.drop 3)=some (.nE false 1 (mp n4 x.names)))∧
 (∀x:Syntax,qo false 1 (x.cells.drop 4)=some (.nE false 2 (mp mP.cells x.levels)))∧
 (∀x:Syntax,qo false 1 (x.cells.drop 5)=some (.nE false 8 (mp Syntax.cells x.kids)))∧
 (∀x:Syntax,qo false 1 (x.cells.drop 6)=some (.int .i64 x.from_))∧
 (∀x:Syntax,qo false 1 (x.cells.drop 7)=some (.int .i64 x.to)):=
 ⟨fun x=>by simp only[cellsOf,Syntax.scalar,if_true],
  fun x=>C6 (Syntax.length x),
  fun x=>by rw[Syntax.cells_eq];rfl,
  fun x=>by rw[Syntax.cells_eq];rfl,
  fun x=>by rw[Syntax.cells_eq];rfl,
  fun x=>by rw[Syntax.cells_eq];rfl,
  fun x=>by rw[Syntax.cells_eq];rfl,
  fun x=>by rw[Syntax.cells_eq];rfl,
  fun x=>by rw[Syntax.cells_eq];rfl,
  fun x=>by rw[Syntax.cells_eq];rfl⟩
theorem Syntax.PA (x:Syntax) (o:Nat) (xs:List AV):splice x.cells o xs=splice [.int .i64 x.kind,.str (sb x.text),.int .i64 x.num,.nE false 1 (mp n4 x.names),.nE false 2 (mp mP.cells x.levels),.nE false 8 (mp Syntax.cells x.kids),.int .i64 x.from_,.int .i64 x.to] o xs:=by rw[Syntax.cells_eq]
theorem Syntax.JB (x:Syntax) (o:Nat) (c:AV) (cs:List AV):splice (c::cs) o x.cells=splice (c::cs) o [.int .i64 x.kind,.str (sb x.text),.int .i64 x.num,.nE false 1 (mp n4 x.names),.nE false 2 (mp mP.cells x.levels),.nE false 8 (mp Syntax.cells x.kids),.int .i64 x.from_,.int .i64 x.to]:=by rw[Syntax.cells_eq]
theorem Syntax.app (x:Syntax) (l:List AV):x.cells++l=(.int .i64 x.kind:AV)::(.str (sb x.text):AV)::(.int .i64 x.num:AV)::(.nE false 1 (mp n4 x.names):AV)::(.nE false 2 (mp mP.cells x.levels):AV)::(.nE false 8 (mp Syntax.cells x.kids):AV)::(.int .i64 x.from_:AV)::(.int .i64 x.to:AV)::l:=by rw[Syntax.cells_eq];rfl
theorem Syntax.cns (x:Syntax) (c:AV):c::x.cells=[c,.int .i64 x.kind,.str (sb x.text),.int .i64 x.num,.nE false 1 (mp n4 x.names),.nE false 2 (mp mP.cells x.levels),.nE false 8 (mp Syntax.cells x.kids),.int .i64 x.from_,.int .i64 x.to]:=by rw[Syntax.cells_eq]
attribute [go_sem] Syntax.app Syntax.cns
attribute [go_sem] Syntax.nbs Syntax.Pz Syntax.O1 Syntax.reads Syntax.length Syntax.scalar
attribute [go_sem low] Syntax.PA Syntax.JB
structure Law25Pair where
 left:Int
 right:Int
 xU:Int
 wu:Int
def Law25Pair.cells (x:Law25Pair):List AV:=[.int .u8 x.left,.int .u8 x.right,.int .u8 x.xU,.int .u8 x.wu]
theorem Law25Pair.rH (x:Law25Pair):x.cells=[.int .u8 x.left,.int .u8 x.right,.int .u8 x.xU,.int .u8 x.wu]:=rfl
theorem Law25Pair.cells_eq (x:Law25Pair):x.cells=[.int .u8 x.left,.int .u8 x.right,.int .u8 x.xU,.int .u8 x.wu]:=rfl
attribute [irreducible] Law25Pair.cells
theorem Law25Pair.length (x:Law25Pair):x.cells.length=4:=by rw[Law25Pair.cells_eq];rfl
theorem Law25Pair.scalar (x:Law25Pair):x.cells.all AV.scalar=true:=by rw[Law25Pair.cells_eq];rfl
theorem Law25Pair.nb (n:Nat) (x:Law25Pair):nbL n x.cells:=by
 rw[Law25Pair.rH]
 exact ⟨trivial,trivial,trivial,trivial,trivial⟩
def Law25Pair.of (H:List AObj):List AV→Option Law25Pair
 |[c0,c1,c2,c3]=>(dI .u8 c0).bind fun x0=>(dI .u8 c1).bind fun x1=>(dI .u8 c2).bind fun x2=>(dI .u8 c3).bind fun x3=>some (.mk x0 x1 x2 x3)
 |_=>none
theorem Law25Pair.zX {H:List AObj} {c0 c1 c2 c3:AV}:Law25Pair.of H [c0,c1,c2,c3]=(dI .u8 c0).bind fun x0=>(dI .u8 c1).bind fun x1=>(dI .u8 c2).bind fun x2=>(dI .u8 c3).bind fun x3=>some (.mk x0 x1 x2 x3):=rfl
theorem Law25Pair.uf (H:List AObj) (x:Law25Pair):Law25Pair.of H [.int .u8 x.left,.int .u8 x.right,.int .u8 x.xU,.int .u8 x.wu]=some x:=by
 simp only[Law25Pair.zX,Kb,GB,Of,zi,EW,beq_self_eq_true,hO,cond_true,dL]
 try (cases x;rfl)
theorem Law25Pair.sJ (H:List AObj) (x:Law25Pair):Law25Pair.of H x.cells=some x:=by rw[Law25Pair.cells_eq];exact Law25Pair.uf H x
theorem Law25Pair.Du {H:List AObj} {n:Nat} {cs:List AV} {x:Law25Pair} (h:Law25Pair.of H cs=some x):sW H n cs x.cells:=by
 unfold Law25Pair.of at h
 split at h
 ·simp only[gZ,hJ] at h
  obtain ⟨x0,h0,x1,h1,x2,h2,x3,h3,rfl⟩:=h
  rw[Law25Pair.rH]
  exact (sW.cons (Ds h0) (sW.cons (Ds h1) (sW.cons (Ds h2) (sW.cons (Ds h3) sW.nil))))
 ·cases h
def Law25Pair.cel:Mn Law25Pair:=⟨Law25Pair.cells,Law25Pair.of,fun _ _ _ _ h=>Law25Pair.Du h,Law25Pair.nb⟩
def Law25Pair.row:Row Law25Pair:=⟨Law25Pair.cells,Law25Pair.of [],4,fun _ _ h=>(Law25Pair.Du (n:=0) h).toSub,Law25Pair.nb⟩
theorem Law25Pair.sK (xs:List Law25Pair):mapO (Law25Pair.of []) (mp Law25Pair.cells xs)=some xs:=B8 (Law25Pair.sJ []) xs
theorem Law25Pair.ue (xs:List Law25Pair) (i:Nat) (r:List AV):mapO (Law25Pair.of []) ((mp Law25Pair.cells xs).set i r)=bif decide (i<xs.length) then (Law25Pair.of [] r).bind fun y=>some (xs.set i y) else some xs:=Go.Abs.ue (Law25Pair.sJ []) xs i r
attribute [go_sem low] Law25Pair.ue
theorem Law25Pair.JA:Law25Pair.row.enc=Law25Pair.cells∧Law25Pair.row.dec=Law25Pair.of []∧Law25Pair.row.sz=4∧Law25Pair.cel.enc=Law25Pair.cells∧Law25Pair.cel.dec=Law25Pair.of:=⟨rfl,rfl,rfl,rfl,rfl⟩
theorem Law25Pair.eta (x:Law25Pair):Law25Pair.mk x.left x.right x.xU x.wu=x:=by cases x;rfl
attribute [go_sem] Law25Pair.zX Law25Pair.sJ Law25Pair.sK Law25Pair.JA Law25Pair.eta
theorem Law25Pair.prj:(∀ (y0:Int) (y1:Int) (y2:Int) (y3:Int),(Law25Pair.mk y0 y1 y2 y3).left=y0)∧(∀ (y0:Int) (y1:Int) (y2:Int) (y3:Int),(Law25Pair.mk y0 y1 y2 y3).right=y1)∧(∀ (y0:Int) (y1:Int) (y2:Int) (y3:Int),(Law25Pair.mk y0 y1 y2 y3).xU=y2)∧(∀ (y0:Int) (y1:Int) (y2:Int) (y3:Int),(Law25Pair.mk y0 y1 y2 y3).wu=y3):=⟨fun _ _ _ _=>rfl,fun _ _ _ _=>rfl,fun _ _ _ _=>rfl,fun _ _ _ _=>rfl⟩
attribute [go_sem] Law25Pair.prj
theorem Law25Pair.nbs:(∀ (n:Nat) (x:Law25Pair),Go.Abs.nbL n x.cells=True)∧ ∀ (n:Nat) (xs:List Law25Pair),Go.Abs.GJ n (mp Law25Pair.cells xs)=True:=⟨fun n x=>eq_true (Law25Pair.nb n x),fun n xs=>eq_true (ud (Law25Pair.nb n) xs)⟩
theorem Law25Pair.Pz:(∀ (ρ:Nat→Nat) (x:Law25Pair),renL ρ x.cells=x.cells)∧ ∀ (ρ:Nat→Nat) (xs:List Law25Pair),Bw ρ (mp Law25Pair.cells xs)=mp Law25Pair.cells xs:=⟨fun ρ x=>tR ρ _ (Law25Pair.nb 0 x),fun ρ xs=>vG ρ _ (ud (Law25Pair.nb 0) xs)⟩
theorem Law25Pair.vw (H:List AObj) (x:Law25Pair):NT H x.cells=some (x.cells,[]):=Dt H _ (Law25Pair.nb 0 x)
attribute [go_sem] Law25Pair.vw
theorem Law25Pair.O1 (low:Nat) (H:List AObj) (x:Law25Pair):Ny low H x.cells=x.cells:=zg low H _ (Law25Pair.nb 0 x)
theorem Law25Pair.rpv (l:Nat) (ds:List AV) (x:Law25Pair):x.cells.map (Z5 l ds)=x.cells:=BE _ (Law25Pair.nb 0 x)
attribute [go_sem] Law25Pair.rpv
theorem Law25Pair.tk:(∀x:Law25Pair,ia 4 x.cells=x.cells)∧ ∀x:Law25Pair,ig 4 x.cells=[]:=⟨fun x=>by rw[Law25Pair.cells_eq];rfl,fun x=>by rw[Law25Pair.cells_eq];rfl⟩
attribute [go_sem] Law25Pair.tk
theorem Law25Pair.reads:
 (∀x:Law25Pair,cellsOf (.agg x.cells)=some x.cells)∧
 (∀x:Law25Pair,qo true 4 x.cells=some (.agg x.cells))∧
 (∀x:Law25Pair,qo false 1 x.cells=some (.int .u8 x.left))∧
 (∀x:Law25Pair,qo false 1 (x.cells.drop 1)=some (.int .u8 x.right))∧
 (∀x:Law25Pair,qo false 1 (x.cells.drop 2)=some (.int .u8 x.xU))∧
 (∀x:Law25Pair,qo false 1 (x.cells.drop 3)=some (.int .u8 x.wu)):=
 ⟨fun x=>by simp only[cellsOf,Law25Pair.scalar,if_true],
  fun x=>C6 (Law25Pair.length x),
  fun x=>by rw[Law25Pair.cells_eq];rfl,
  fun x=>by rw[Law25Pair.cells_eq];rfl,
  fun x=>by rw[Law25Pair.cells_eq];rfl,
  fun x=>by rw[Law25Pair.cells_eq];rfl⟩
theorem Law25Pair.PA (x:Law25Pair) (o:Nat) (xs:List AV):splice x.cells o xs=splice [.int .u8 x.left,.int .u8 x.right,.int .u8 x.xU,.int .u8 x.wu] o xs:=by rw[Law25Pair.cells_eq]
theorem Law25Pair.JB (x:Law25Pair) (o:Nat) (c:AV) (cs:List AV):splice (c::cs) o x.cells=splice (c::cs) o [.int .u8 x.left,.int .u8 x.right,.int .u8 x.xU,.int .u8 x.wu]:=by rw[Law25Pair.cells_eq]
theorem Law25Pair.app (x:Law25Pair) (l:List AV):x.cells++l=(.int .u8 x.left:AV)::(.int .u8 x.right:AV)::(.int .u8 x.xU:AV)::(.int .u8 x.wu:AV)::l:=by rw[Law25Pair.cells_eq];rfl
theorem Law25Pair.cns (x:Law25Pair) (c:AV):c::x.cells=[c,.int .u8 x.left,.int .u8 x.right,.int .u8 x.xU,.int .u8 x.wu]:=by rw[Law25Pair.cells_eq]
attribute [go_sem] Law25Pair.app Law25Pair.cns
attribute [go_sem] Law25Pair.nbs Law25Pair.Pz Law25Pair.O1 Law25Pair.reads Law25Pair.length Law25Pair.scalar
attribute [go_sem low] Law25Pair.PA Law25Pair.JB
structure m4 where
 l:List Syntax
 e:Syntax
def m4.cells (x:m4):List AV:=[.nE false 8 (mp Syntax.cells x.l)]++x.e.cells
theorem m4.rH (x:m4):x.cells=[.nE false 8 (mp Syntax.cells x.l)]++x.e.cells:=rfl
theorem m4.cells_eq (x:m4):x.cells=[.nE false 8 (mp Syntax.cells x.l),.int .i64 x.e.kind,.str (sb x.e.text),.int .i64 x.e.num,.nE false 1 (mp n4 x.e.names),.nE false 2 (mp mP.cells x.e.levels),.nE false 8 (mp Syntax.cells x.e.kids),.int .i64 x.e.from_,.int .i64 x.e.to]:=by
 simp only[m4.cells,Syntax.cells_eq,List.cons_append,List.nil_append,List.append_nil]
attribute [irreducible] m4.cells
theorem m4.length (x:m4):x.cells.length=9:=by rw[m4.cells_eq];rfl
theorem m4.scalar (x:m4):x.cells.all AV.scalar=true:=by rw[m4.cells_eq];rfl
theorem m4.nb (n:Nat) (x:m4):nbL n x.cells:=by
 rw[m4.rH]
 exact (GV ⟨ud (Syntax.nb n) _,trivial⟩ (Syntax.nb n x.e))
def m4.of (H:List AObj):List AV→Option m4
 |[c0,c1,c2,c3,c4,c5,c6,c7,c8]=>(dL Syntax.row H c0).bind fun x0=>(Syntax.of H [c1,c2,c3,c4,c5,c6,c7,c8]).bind fun x1=>some (.mk x0 x1)
 |_=>none
theorem m4.zX {H:List AObj} {c0 c1 c2 c3 c4 c5 c6 c7 c8:AV}:m4.of H [c0,c1,c2,c3,c4,c5,c6,c7,c8]=(dL Syntax.row H c0).bind fun x0=>(Syntax.of H [c1,c2,c3,c4,c5,c6,c7,c8]).bind fun x1=>some (.mk x0 x1):=rfl
theorem m4.uf (H:List AObj) (x:m4):m4.of H [.nE false 8 (mp Syntax.cells x.l),.int .i64 x.e.kind,.str (sb x.e.text),.int .i64 x.e.num,.nE false 1 (mp n4 x.e.names),.nE false 2 (mp mP.cells x.e.levels),.nE false 8 (mp Syntax.cells x.e.kids),.int .i64 x.e.from_,.int .i64 x.e.to]=some x:=by
 simp only[m4.zX,Kb,GB,Of,zi,EW,beq_self_eq_true,hO,cond_true,dL,Syntax.sK,Syntax.row,Syntax.uf]
 try (cases x;rfl)
theorem m4.sJ (H:List AObj) (x:m4):m4.of H x.cells=some x:=by rw[m4.cells_eq];exact m4.uf H x
theorem m4.Du {H:List AObj} {n:Nat} {cs:List AV} {x:m4} (h:m4.of H cs=some x):sW H n cs x.cells:=by
 unfold m4.of at h
 split at h
 ·simp only[gZ,hJ] at h
  obtain ⟨x0,h0,x1,h1,rfl⟩:=h
  rw[m4.rH]
  exact (sW.append (sW.cons (Jt h0) sW.nil) (Syntax.Du h1))
 ·cases h
def m4.cel:Mn m4:=⟨m4.cells,m4.of,fun _ _ _ _ h=>m4.Du h,m4.nb⟩
def m4.row:Row m4:=⟨m4.cells,m4.of [],9,fun _ _ h=>(m4.Du (n:=0) h).toSub,m4.nb⟩
theorem m4.sK (xs:List m4):mapO (m4.of []) (mp m4.cells xs)=some xs:=B8 (m4.sJ []) xs
theorem m4.ue (xs:List m4) (i:Nat) (r:List AV):mapO (m4.of []) ((mp m4.cells xs).set i r)=bif decide (i<xs.length) then (m4.of [] r).bind fun y=>some (xs.set i y) else some xs:=Go.Abs.ue (m4.sJ []) xs i r
attribute [go_sem low] m4.ue
theorem m4.JA:m4.row.enc=m4.cells∧m4.row.dec=m4.of []∧m4.row.sz=9∧m4.cel.enc=m4.cells∧m4.cel.dec=m4.of:=⟨rfl,rfl,rfl,rfl,rfl⟩
theorem m4.eta (x:m4):m4.mk x.l x.e=x:=by cases x;rfl
attribute [go_sem] m4.zX m4.sJ m4.sK m4.JA m4.eta
theorem m4.prj:(∀ (y0:List Syntax) (y1:Syntax),(m4.mk y0 y1).l=y0)∧(∀ (y0:List Syntax) (y1:Syntax),(m4.mk y0 y1).e=y1):=⟨fun _ _=>rfl,fun _ _=>rfl⟩
attribute [go_sem] m4.prj
theorem m4.nbs:(∀ (n:Nat) (x:m4),Go.Abs.nbL n x.cells=True)∧ ∀ (n:Nat) (xs:List m4),Go.Abs.GJ n (mp m4.cells xs)=True:=⟨fun n x=>eq_true (m4.nb n x),fun n xs=>eq_true (ud (m4.nb n) xs)⟩
theorem m4.Pz:(∀ (ρ:Nat→Nat) (x:m4),renL ρ x.cells=x.cells)∧ ∀ (ρ:Nat→Nat) (xs:List m4),Bw ρ (mp m4.cells xs)=mp m4.cells xs:=⟨fun ρ x=>tR ρ _ (m4.nb 0 x),fun ρ xs=>vG ρ _ (ud (m4.nb 0) xs)⟩
theorem m4.vw (H:List AObj) (x:m4):NT H x.cells=some (x.cells,[]):=Dt H _ (m4.nb 0 x)
attribute [go_sem] m4.vw
theorem m4.O1 (low:Nat) (H:List AObj) (x:m4):Ny low H x.cells=x.cells:=zg low H _ (m4.nb 0 x)
theorem m4.rpv (l:Nat) (ds:List AV) (x:m4):x.cells.map (Z5 l ds)=x.cells:=BE _ (m4.nb 0 x)
attribute [go_sem] m4.rpv
theorem m4.tk:(∀x:m4,ia 9 x.cells=x.cells)∧ ∀x:m4,ig 9 x.cells=[]:=⟨fun x=>by rw[m4.cells_eq];rfl,fun x=>by rw[m4.cells_eq];rfl⟩
attribute [go_sem] m4.tk
theorem m4.reads:
 (∀x:m4,cellsOf (.agg x.cells)=some x.cells)∧
 (∀x:m4,qo true 9 x.cells=some (.agg x.cells))∧
 (∀x:m4,qo false 1 x.cells=some (.nE false 8 (mp Syntax.cells x.l)))∧
 (∀x:m4,qo false 1 (x.cells.drop 1)=some (.int .i64 x.e.kind))∧
 (∀x:m4,qo false 1 (x.cells.drop 2)=some (.str (sb x.e.text)))∧
 (∀x:m4,qo false 1 (x.cells.drop 3)=some (.int .i64 x.e.num))∧
 (∀x:m4,qo false 1 (x.cells.drop 4)=some (.nE false 1 (mp n4 x.e.names)))∧
 (∀x:m4,qo false 1 (x.cells.drop 5)=some (.nE false 2 (mp mP.cells x.e.levels)))∧
 (∀x:m4,qo false 1 (x.cells.drop 6)=some (.nE false 8 (mp Syntax.cells x.e.kids)))∧
 (∀x:m4,qo false 1 (x.cells.drop 7)=some (.int .i64 x.e.from_))∧
 (∀x:m4,qo false 1 (x.cells.drop 8)=some (.int .i64 x.e.to))∧
 (∀x:m4,qo true 8 (x.cells.drop 1)=some (.agg x.e.cells)):=
 ⟨fun x=>by simp only[cellsOf,m4.scalar,if_true],
  fun x=>C6 (m4.length x),
  fun x=>by rw[m4.cells_eq];rfl,
  fun x=>by rw[m4.cells_eq];rfl,
  fun x=>by rw[m4.cells_eq];rfl,
  fun x=>by rw[m4.cells_eq];rfl,
  fun x=>by rw[m4.cells_eq];rfl,
  fun x=>by rw[m4.cells_eq];rfl,
  fun x=>by rw[m4.cells_eq];rfl,
  fun x=>by rw[m4.cells_eq];rfl,
  fun x=>by rw[m4.cells_eq];rfl,
  fun x=>by rw[m4.cells_eq];simp only[Syntax.cells_eq,List.drop_succ_cons,List.drop_zero];rfl⟩
theorem m4.PA (x:m4) (o:Nat) (xs:List AV):splice x.cells o xs=splice [.nE false 8 (mp Syntax.cells x.l),.int .i64 x.e.kind,.str (sb x.e.text),.int .i64 x.e.num,.nE false 1 (mp n4 x.e.names),.nE false 2 (mp mP.cells x.e.levels),.nE false 8 (mp Syntax.cells x.e.kids),.int .i64 x.e.from_,.int .i64 x.e.to] o xs:=by rw[m4.cells_eq]
theorem m4.JB (x:m4) (o:Nat) (c:AV) (cs:List AV):splice (c::cs) o x.cells=splice (c::cs) o [.nE false 8 (mp Syntax.cells x.l),.int .i64 x.e.kind,.str (sb x.e.text),.int .i64 x.e.num,.nE false 1 (mp n4 x.e.names),.nE false 2 (mp mP.cells x.e.levels),.nE false 8 (mp Syntax.cells x.e.kids),.int .i64 x.e.from_,.int .i64 x.e.to]:=by rw[m4.cells_eq]
theorem m4.app (x:m4) (l:List AV):x.cells++l=(.nE false 8 (mp Syntax.cells x.l):AV)::(.int .i64 x.e.kind:AV)::(.str (sb x.e.text):AV)::(.int .i64 x.e.num:AV)::(.nE false 1 (mp n4 x.e.names):AV)::(.nE false 2 (mp mP.cells x.e.levels):AV)::(.nE false 8 (mp Syntax.cells x.e.kids):AV)::(.int .i64 x.e.from_:AV)::(.int .i64 x.e.to:AV)::l:=by rw[m4.cells_eq];rfl
theorem m4.cns (x:m4) (c:AV):c::x.cells=[c,.nE false 8 (mp Syntax.cells x.l),.int .i64 x.e.kind,.str (sb x.e.text),.int .i64 x.e.num,.nE false 1 (mp n4 x.e.names),.nE false 2 (mp mP.cells x.e.levels),.nE false 8 (mp Syntax.cells x.e.kids),.int .i64 x.e.from_,.int .i64 x.e.to]:=by rw[m4.cells_eq]
attribute [go_sem] m4.app m4.cns
attribute [go_sem] m4.nbs m4.Pz m4.O1 m4.reads m4.length m4.scalar
attribute [go_sem low] m4.PA m4.JB
structure mO where
 table:List Notation
 l:List Syntax
 at_:Int
 bad:Bool
def mO.cells (x:mO):List AV:=[.nE false 4 (mp Notation.cells x.table),.nE false 8 (mp Syntax.cells x.l),.int .i64 x.at_,.bool x.bad]
theorem mO.rH (x:mO):x.cells=[.nE false 4 (mp Notation.cells x.table),.nE false 8 (mp Syntax.cells x.l),.int .i64 x.at_,.bool x.bad]:=rfl
theorem mO.cells_eq (x:mO):x.cells=[.nE false 4 (mp Notation.cells x.table),.nE false 8 (mp Syntax.cells x.l),.int .i64 x.at_,.bool x.bad]:=rfl
attribute [irreducible] mO.cells
theorem mO.length (x:mO):x.cells.length=4:=by rw[mO.cells_eq];rfl
theorem mO.scalar (x:mO):x.cells.all AV.scalar=true:=by rw[mO.cells_eq];rfl
theorem mO.nb (n:Nat) (x:mO):nbL n x.cells:=by
 rw[mO.rH]
 exact ⟨ud (Notation.nb n) _,ud (Syntax.nb n) _,trivial,trivial,trivial⟩
def mO.of (H:List AObj):List AV→Option mO
 |[c0,c1,c2,c3]=>(dL Notation.row H c0).bind fun x0=>(dL Syntax.row H c1).bind fun x1=>(dI .i64 c2).bind fun x2=>(dB c3).bind fun x3=>some (.mk x0 x1 x2 x3)
 |_=>none
theorem mO.zX {H:List AObj} {c0 c1 c2 c3:AV}:mO.of H [c0,c1,c2,c3]=(dL Notation.row H c0).bind fun x0=>(dL Syntax.row H c1).bind fun x1=>(dI .i64 c2).bind fun x2=>(dB c3).bind fun x3=>some (.mk x0 x1 x2 x3):=rfl
theorem mO.uf (H:List AObj) (x:mO):mO.of H [.nE false 4 (mp Notation.cells x.table),.nE false 8 (mp Syntax.cells x.l),.int .i64 x.at_,.bool x.bad]=some x:=by
 simp only[mO.zX,Kb,GB,Of,zi,EW,beq_self_eq_true,hO,cond_true,dL,Notation.sK,Notation.row,Syntax.sK,Syntax.row]
 try (cases x;rfl)
theorem mO.sJ (H:List AObj) (x:mO):mO.of H x.cells=some x:=by rw[mO.cells_eq];exact mO.uf H x
theorem mO.Du {H:List AObj} {n:Nat} {cs:List AV} {x:mO} (h:mO.of H cs=some x):sW H n cs x.cells:=by
 unfold mO.of at h
 split at h
 ·simp only[gZ,hJ] at h
  obtain ⟨x0,h0,x1,h1,x2,h2,x3,h3,rfl⟩:=h
  rw[mO.rH]
  exact (sW.cons (Jt h0) (sW.cons (Jt h1) (sW.cons (Ds h2) (sW.cons (YA h3) sW.nil))))
 ·cases h
def mO.cel:Mn mO:=⟨mO.cells,mO.of,fun _ _ _ _ h=>mO.Du h,mO.nb⟩
def mO.row:Row mO:=⟨mO.cells,mO.of [],4,fun _ _ h=>(mO.Du (n:=0) h).toSub,mO.nb⟩
theorem mO.sK (xs:List mO):mapO (mO.of []) (mp mO.cells xs)=some xs:=B8 (mO.sJ []) xs
theorem mO.ue (xs:List mO) (i:Nat) (r:List AV):mapO (mO.of []) ((mp mO.cells xs).set i r)=bif decide (i<xs.length) then (mO.of [] r).bind fun y=>some (xs.set i y) else some xs:=Go.Abs.ue (mO.sJ []) xs i r
attribute [go_sem low] mO.ue
theorem mO.JA:mO.row.enc=mO.cells∧mO.row.dec=mO.of []∧mO.row.sz=4∧mO.cel.enc=mO.cells∧mO.cel.dec=mO.of:=⟨rfl,rfl,rfl,rfl,rfl⟩
theorem mO.eta (x:mO):mO.mk x.table x.l x.at_ x.bad=x:=by cases x;rfl
attribute [go_sem] mO.zX mO.sJ mO.sK mO.JA mO.eta
theorem mO.prj:(∀ (y0:List Notation) (y1:List Syntax) (y2:Int) (y3:Bool),(mO.mk y0 y1 y2 y3).table=y0)∧(∀ (y0:List Notation) (y1:List Syntax) (y2:Int) (y3:Bool),(mO.mk y0 y1 y2 y3).l=y1)∧(∀ (y0:List Notation) (y1:List Syntax) (y2:Int) (y3:Bool),(mO.mk y0 y1 y2 y3).at_=y2)∧(∀ (y0:List Notation) (y1:List Syntax) (y2:Int) (y3:Bool),(mO.mk y0 y1 y2 y3).bad=y3):=⟨fun _ _ _ _=>rfl,fun _ _ _ _=>rfl,fun _ _ _ _=>rfl,fun _ _ _ _=>rfl⟩
attribute [go_sem] mO.prj
theorem mO.nbs:(∀ (n:Nat) (x:mO),Go.Abs.nbL n x.cells=True)∧ ∀ (n:Nat) (xs:List mO),Go.Abs.GJ n (mp mO.cells xs)=True:=⟨fun n x=>eq_true (mO.nb n x),fun n xs=>eq_true (ud (mO.nb n) xs)⟩
theorem mO.Pz:(∀ (ρ:Nat→Nat) (x:mO),renL ρ x.cells=x.cells)∧ ∀ (ρ:Nat→Nat) (xs:List mO),Bw ρ (mp mO.cells xs)=mp mO.cells xs:=⟨fun ρ x=>tR ρ _ (mO.nb 0 x),fun ρ xs=>vG ρ _ (ud (mO.nb 0) xs)⟩
theorem mO.vw (H:List AObj) (x:mO):NT H x.cells=some (x.cells,[]):=Dt H _ (mO.nb 0 x)
attribute [go_sem] mO.vw
theorem mO.O1 (low:Nat) (H:List AObj) (x:mO):Ny low H x.cells=x.cells:=zg low H _ (mO.nb 0 x)
theorem mO.rpv (l:Nat) (ds:List AV) (x:mO):x.cells.map (Z5 l ds)=x.cells:=BE _ (mO.nb 0 x)
attribute [go_sem] mO.rpv
theorem mO.tk:(∀x:mO,ia 4 x.cells=x.cells)∧ ∀x:mO,ig 4 x.cells=[]:=⟨fun x=>by rw[mO.cells_eq];rfl,fun x=>by rw[mO.cells_eq];rfl⟩
attribute [go_sem] mO.tk
theorem mO.reads:
 (∀x:mO,cellsOf (.agg x.cells)=some x.cells)∧
 (∀x:mO,qo true 4 x.cells=some (.agg x.cells))∧
 (∀x:mO,qo false 1 x.cells=some (.nE false 4 (mp Notation.cells x.table)))∧
 (∀x:mO,qo false 1 (x.cells.drop 1)=some (.nE false 8 (mp Syntax.cells x.l)))∧
 (∀x:mO,qo false 1 (x.cells.drop 2)=some (.int .i64 x.at_))∧
 (∀x:mO,qo false 1 (x.cells.drop 3)=some (.bool x.bad)):=
 ⟨fun x=>by simp only[cellsOf,mO.scalar,if_true],
  fun x=>C6 (mO.length x),
  fun x=>by rw[mO.cells_eq];rfl,
  fun x=>by rw[mO.cells_eq];rfl,
  fun x=>by rw[mO.cells_eq];rfl,
  fun x=>by rw[mO.cells_eq];rfl⟩
theorem mO.PA (x:mO) (o:Nat) (xs:List AV):splice x.cells o xs=splice [.nE false 4 (mp Notation.cells x.table),.nE false 8 (mp Syntax.cells x.l),.int .i64 x.at_,.bool x.bad] o xs:=by rw[mO.cells_eq]
theorem mO.JB (x:mO) (o:Nat) (c:AV) (cs:List AV):splice (c::cs) o x.cells=splice (c::cs) o [.nE false 4 (mp Notation.cells x.table),.nE false 8 (mp Syntax.cells x.l),.int .i64 x.at_,.bool x.bad]:=by rw[mO.cells_eq]
theorem mO.app (x:mO) (l:List AV):x.cells++l=(.nE false 4 (mp Notation.cells x.table):AV)::(.nE false 8 (mp Syntax.cells x.l):AV)::(.int .i64 x.at_:AV)::(.bool x.bad:AV)::l:=by rw[mO.cells_eq];rfl
theorem mO.cns (x:mO) (c:AV):c::x.cells=[c,.nE false 4 (mp Notation.cells x.table),.nE false 8 (mp Syntax.cells x.l),.int .i64 x.at_,.bool x.bad]:=by rw[mO.cells_eq]
attribute [go_sem] mO.app mO.cns
attribute [go_sem] mO.nbs mO.Pz mO.O1 mO.reads mO.length mO.scalar
attribute [go_sem low] mO.PA mO.JB
end Go.Abs
namespace Go.Abs
open Go.Proofs
theorem tf0:
 rX Tryd.prog 3=some (false,1)∧
 q9 Tryd.prog 3=none∧
 rP Tryd.prog 3=some [.int .i64 0]∧
 vE Tryd.prog 3=false∧
 QM Tryd.prog 3=some .i64∧
 rC Tryd.prog 3=false∧
 tE Tryd.prog 3=true∧
 rX Tryd.prog 4=some (false,1)∧
 q9 Tryd.prog 4=none∧
 rP Tryd.prog 4=some [.bool false]∧
 vE Tryd.prog 4=false∧
 rC Tryd.prog 4=true∧
 tE Tryd.prog 4=true∧
 rX Tryd.prog 5=some (false,1)∧
 q9 Tryd.prog 5=none∧
 rP Tryd.prog 5=some [.int .u8 0]∧
 vE Tryd.prog 5=false∧
 QM Tryd.prog 5=some .u8∧
 rC Tryd.prog 5=false∧
 tE Tryd.prog 5=true∧
 rX Tryd.prog 9=some (false,1)∧
 q9 Tryd.prog 9=none∧
 rP Tryd.prog 9=some [.str hU]∧
 vE Tryd.prog 9=true∧
 QM Tryd.prog 9=none∧
 rC Tryd.prog 9=true∧
 tE Tryd.prog 9=true∧
 rX Tryd.prog 21=some (false,1)∧
 q9 Tryd.prog 21=none∧
 rP Tryd.prog 21=some [.int .i32 0]∧
 vE Tryd.prog 21=false∧
 QM Tryd.prog 21=some .i32∧
 rC Tryd.prog 21=false∧
 tE Tryd.prog 21=true∧
 rX Tryd.prog 22=some (false,1)∧
 q9 Tryd.prog 22=some (9,1,16)∧
 rP Tryd.prog 22=some [.nE true 0 []]∧
 vE Tryd.prog 22=false∧
 rC Tryd.prog 22=true∧
 tE Tryd.prog 22=true∧
 rX Tryd.prog 24=some (true,4)∧
 ze Tryd.prog 24=true∧
 wT Tryd.prog 24 0=some (0,22)∧
 p7 Tryd.prog 24 0=some (0,1)∧
 wT Tryd.prog 24 1=some (1,3)∧
 p7 Tryd.prog 24 1=some (1,1)∧
 wT Tryd.prog 24 2=some (2,3)∧
 p7 Tryd.prog 24 2=some (2,1)∧
 wT Tryd.prog 24 3=some (3,9)∧
 p7 Tryd.prog 24 3=some (3,1)∧
 q9 Tryd.prog 24=none∧
 rP Tryd.prog 24=some [.nE true 0 [],.int .i64 0,.int .i64 0,.str hU]∧
 vE Tryd.prog 24=false∧
 rC Tryd.prog 24=true∧
 tE Tryd.prog 24=true∧
 rX Tryd.prog 26=some (false,1)∧
 q9 Tryd.prog 26=some (24,4,56)∧
 rP Tryd.prog 26=some [.nE true 0 []]∧
 vE Tryd.prog 26=false∧
 rC Tryd.prog 26=true∧
 tE Tryd.prog 26=true∧
 rX Tryd.prog 28=some (false,1)∧
 q9 Tryd.prog 28=none∧
 rP Tryd.prog 28=some [.int .i64 0]∧
 vE Tryd.prog 28=false∧
 QM Tryd.prog 28=some .i64∧
 rC Tryd.prog 28=false∧
 tE Tryd.prog 28=true∧
 rX Tryd.prog 31=some (false,1)∧
 q9 Tryd.prog 31=none∧
 rP Tryd.prog 31=some [.raw .nilFunc]∧
 vE Tryd.prog 31=false∧
 rC Tryd.prog 31=true∧
 tE Tryd.prog 31=true∧
 rX Tryd.prog 32=some (false,1)∧
 q9 Tryd.prog 32=some (36,8,120)∧
 rP Tryd.prog 32=some [.nE true 0 []]∧
 vE Tryd.prog 32=false∧
 rC Tryd.prog 32=true∧
 tE Tryd.prog 32=true∧
 rX Tryd.prog 34=some (false,1)∧
 q9 Tryd.prog 34=some (120,2,32)∧
 rP Tryd.prog 34=some [.nE true 0 []]∧
 vE Tryd.prog 34=false∧
 rC Tryd.prog 34=true∧
 tE Tryd.prog 34=true∧
 rX Tryd.prog 36=some (true,8)∧
 ze Tryd.prog 36=true∧
 wT Tryd.prog 36 0=some (0,3)∧
 p7 Tryd.prog 36 0=some (0,1)∧
 wT Tryd.prog 36 1=some (1,9)∧
 p7 Tryd.prog 36 1=some (1,1)∧
 wT Tryd.prog 36 2=some (2,3)∧
 p7 Tryd.prog 36 2=some (2,1)∧
 wT Tryd.prog 36 3=some (3,22)∧
 p7 Tryd.prog 36 3=some (3,1)∧
 wT Tryd.prog 36 4=some (4,34)∧
 p7 Tryd.prog 36 4=some (4,1)∧
 wT Tryd.prog 36 5=some (5,32)∧
 p7 Tryd.prog 36 5=some (5,1)∧
 wT Tryd.prog 36 6=some (6,3)∧
 p7 Tryd.prog 36 6=some (6,1)∧
 wT Tryd.prog 36 7=some (7,3)∧
 p7 Tryd.prog 36 7=some (7,1)∧
 q9 Tryd.prog 36=none∧
 rP Tryd.prog 36=some [.int .i64 0,.str hU,.int .i64 0,.nE true 0 [],.nE true 0 [],.nE true 0 [],.int .i64 0,.int .i64 0]∧
 vE Tryd.prog 36=false∧
 rC Tryd.prog 36=true∧
 tE Tryd.prog 36=true∧
 rX Tryd.prog 43=some (false,1)∧
 q9 Tryd.prog 43=none∧
 rP Tryd.prog 43=some [.raw .nilFunc]∧
 vE Tryd.prog 43=false∧
 rC Tryd.prog 43=true∧
 tE Tryd.prog 43=true∧
 rX Tryd.prog 54=some (true,4)∧
 ze Tryd.prog 54=true∧
 wT Tryd.prog 54 0=some (0,5)∧
 p7 Tryd.prog 54 0=some (0,1)∧
 wT Tryd.prog 54 1=some (1,5):=
 ⟨by kernel_rfl,by kernel_rfl,by kernel_rfl,by kernel_rfl,by kernel_rfl,by kernel_rfl,by kernel_rfl,by kernel_rfl,by kernel_rfl,by kernel_rfl,by kernel_rfl,by kernel_rfl,by kernel_rfl,by kernel_rfl,by kernel_rfl,by kernel_rfl,by kernel_rfl,by kernel_rfl,by kernel_rfl,by kernel_rfl,by kernel_rfl,by kernel_rfl,by kernel_rfl,by kernel_rfl,by kernel_rfl,by kernel_rfl,by kernel_rfl,by kernel_rfl,by kernel_rfl,by kernel_rfl,by kernel_rfl,by kernel_rfl,by kernel_rfl,by kernel_rfl,by kernel_rfl,by kernel_rfl,by kernel_rfl,by kernel_rfl,by kernel_rfl,by kernel_rfl,by kernel_rfl,by kernel_rfl,by kernel_rfl,by kernel_rfl,by kernel_rfl,by kernel_rfl,by kernel_rfl,by kernel_rfl,by kernel_rfl,by kernel_rfl,by kernel_rfl,by kernel_rfl,by kernel_rfl,by kernel_rfl,by kernel_rfl,by kernel_rfl,by kernel_rfl,by kernel_rfl,by kernel_rfl,by kernel_rfl,by kernel_rfl,by kernel_rfl,by kernel_rfl,by kernel_rfl,by kernel_rfl,by kernel_rfl,by kernel_rfl,by kernel_rfl,by kernel_rfl,by kernel_rfl,by kernel_rfl,by kernel_rfl,by kernel_rfl,by kernel_rfl,by kernel_rfl,by kernel_rfl,by kernel_rfl,by kernel_rfl,by kernel_rfl,by kernel_rfl,by kernel_rfl,by kernel_rfl,by kernel_rfl,by kernel_rfl,by kernel_rfl,by kernel_rfl,by kernel_rfl,by kernel_rfl,by kernel_rfl,by kernel_rfl,by kernel_rfl,by kernel_rfl,by kernel_rfl,by kernel_rfl,by kernel_rfl,by kernel_rfl,by kernel_rfl,by kernel_rfl,by kernel_rfl,by kernel_rfl,by kernel_rfl,by kernel_rfl,by kernel_rfl,by kernel_rfl,by kernel_rfl,by kernel_rfl,by kernel_rfl,by kernel_rfl,by kernel_rfl,by kernel_rfl,by kernel_rfl,by kernel_rfl,by kernel_rfl,by kernel_rfl,by kernel_rfl,by kernel_rfl,by kernel_rfl,by kernel_rfl,by kernel_rfl,by kernel_rfl⟩
theorem tf1:
 p7 Tryd.prog 54 1=some (1,1)∧
 wT Tryd.prog 54 2=some (2,5)∧
 p7 Tryd.prog 54 2=some (2,1)∧
 wT Tryd.prog 54 3=some (3,5)∧
 p7 Tryd.prog 54 3=some (3,1)∧
 q9 Tryd.prog 54=none∧
 rP Tryd.prog 54=some [.int .u8 0,.int .u8 0,.int .u8 0,.int .u8 0]∧
 vE Tryd.prog 54=false∧
 rC Tryd.prog 54=true∧
 tE Tryd.prog 54=true∧
 rX Tryd.prog 69=some (false,1)∧
 q9 Tryd.prog 69=none∧
 rP Tryd.prog 69=some [.raw .nilFunc]∧
 vE Tryd.prog 69=false∧
 rC Tryd.prog 69=true∧
 tE Tryd.prog 69=true∧
 rX Tryd.prog 71=some (true,9)∧
 ze Tryd.prog 71=true∧
 wT Tryd.prog 71 0=some (0,32)∧
 p7 Tryd.prog 71 0=some (0,1)∧
 wT Tryd.prog 71 1=some (1,36)∧
 p7 Tryd.prog 71 1=some (1,8)∧
 q9 Tryd.prog 71=none∧
 rP Tryd.prog 71=some [.nE true 0 [],.int .i64 0,.str hU,.int .i64 0,.nE true 0 [],.nE true 0 [],.nE true 0 [],.int .i64 0,.int .i64 0]∧
 vE Tryd.prog 71=false∧
 rC Tryd.prog 71=true∧
 tE Tryd.prog 71=true∧
 rX Tryd.prog 72=some (false,1)∧
 q9 Tryd.prog 72=some (71,9,144)∧
 rP Tryd.prog 72=some [.nE true 0 []]∧
 vE Tryd.prog 72=false∧
 rC Tryd.prog 72=true∧
 tE Tryd.prog 72=true∧
 rX Tryd.prog 76=some (false,1)∧
 q9 Tryd.prog 76=none∧
 rP Tryd.prog 76=some [.raw (.pointer none)]∧
 vE Tryd.prog 76=false∧
 rC Tryd.prog 76=true∧
 tE Tryd.prog 76=true∧
 rX Tryd.prog 79=some (false,1)∧
 q9 Tryd.prog 79=none∧
 rP Tryd.prog 79=some [.raw (.pointer none)]∧
 vE Tryd.prog 79=false∧
 rC Tryd.prog 79=true∧
 tE Tryd.prog 79=true∧
 rX Tryd.prog 81=some (true,3)∧
 ze Tryd.prog 81=true∧
 wT Tryd.prog 81 0=some (0,76)∧
 p7 Tryd.prog 81 0=some (0,1)∧
 wT Tryd.prog 81 1=some (1,32)∧
 p7 Tryd.prog 81 1=some (1,1)∧
 wT Tryd.prog 81 2=some (2,3)∧
 p7 Tryd.prog 81 2=some (2,1)∧
 q9 Tryd.prog 81=none∧
 rP Tryd.prog 81=some [.raw (.pointer none),.nE true 0 [],.int .i64 0]∧
 vE Tryd.prog 81=false∧
 rC Tryd.prog 81=true∧
 tE Tryd.prog 81=true∧
 rX Tryd.prog 83=some (true,0)∧
 ze Tryd.prog 83=true∧
 q9 Tryd.prog 83=none∧
 rP Tryd.prog 83=some []∧
 vE Tryd.prog 83=false∧
 rC Tryd.prog 83=true∧
 tE Tryd.prog 83=true∧
 rX Tryd.prog 87=some (false,1)∧
 q9 Tryd.prog 87=none∧
 rP Tryd.prog 87=some [.raw (.pointer none)]∧
 vE Tryd.prog 87=false∧
 rC Tryd.prog 87=true∧
 tE Tryd.prog 87=true∧
 rX Tryd.prog 89=some (true,4)∧
 ze Tryd.prog 89=true∧
 wT Tryd.prog 89 0=some (0,26)∧
 p7 Tryd.prog 89 0=some (0,1)∧
 wT Tryd.prog 89 1=some (1,32)∧
 p7 Tryd.prog 89 1=some (1,1)∧
 wT Tryd.prog 89 2=some (2,3)∧
 p7 Tryd.prog 89 2=some (2,1)∧
 wT Tryd.prog 89 3=some (3,4)∧
 p7 Tryd.prog 89 3=some (3,1)∧
 q9 Tryd.prog 89=none∧
 rP Tryd.prog 89=some [.nE true 0 [],.nE true 0 [],.int .i64 0,.bool false]∧
 vE Tryd.prog 89=false∧
 rC Tryd.prog 89=true∧
 tE Tryd.prog 89=true∧
 rX Tryd.prog 92=some (false,1)∧
 q9 Tryd.prog 92=none∧
 rP Tryd.prog 92=some [.raw (.pointer none)]∧
 vE Tryd.prog 92=false∧
 rC Tryd.prog 92=true∧
 tE Tryd.prog 92=true∧
 rX Tryd.prog 93=some (false,1)∧
 q9 Tryd.prog 93=none∧
 rP Tryd.prog 93=some [.raw (.map none)]∧
 Ll Tryd.prog 93=some (.agg [.nE true 0 [],.int .i64 0,.int .i64 0,.str hU])∧
 vE Tryd.prog 93=false∧
 rC Tryd.prog 93=true∧
 tE Tryd.prog 93=true∧
 rX Tryd.prog 95=some (true,1)∧
 ze Tryd.prog 95=true∧
 wT Tryd.prog 95 0=some (0,93)∧
 p7 Tryd.prog 95 0=some (0,1)∧
 q9 Tryd.prog 95=none∧
 rP Tryd.prog 95=some [.raw (.map none)]∧
 vE Tryd.prog 95=false∧
 rC Tryd.prog 95=true∧
 tE Tryd.prog 95=true∧
 rX Tryd.prog 101=some (false,1)∧
 q9 Tryd.prog 101=none∧
 rP Tryd.prog 101=some [.raw (.map none)]∧
 Ll Tryd.prog 101=some (.bool false)∧
 vE Tryd.prog 101=false∧
 rC Tryd.prog 101=true∧
 tE Tryd.prog 101=true∧
 rX Tryd.prog 114=some (true,4)∧
 ze Tryd.prog 114=true∧
 wT Tryd.prog 114 0=some (0,93)∧
 p7 Tryd.prog 114 0=some (0,1)∧
 wT Tryd.prog 114 1=some (1,93):=
 ⟨by kernel_rfl,by kernel_rfl,by kernel_rfl,by kernel_rfl,by kernel_rfl,by kernel_rfl,by kernel_rfl,by kernel_rfl,by kernel_rfl,by kernel_rfl,by kernel_rfl,by kernel_rfl,by kernel_rfl,by kernel_rfl,by kernel_rfl,by kernel_rfl,by kernel_rfl,by kernel_rfl,by kernel_rfl,by kernel_rfl,by kernel_rfl,by kernel_rfl,by kernel_rfl,by kernel_rfl,by kernel_rfl,by kernel_rfl,by kernel_rfl,by kernel_rfl,by kernel_rfl,by kernel_rfl,by kernel_rfl,by kernel_rfl,by kernel_rfl,by kernel_rfl,by kernel_rfl,by kernel_rfl,by kernel_rfl,by kernel_rfl,by kernel_rfl,by kernel_rfl,by kernel_rfl,by kernel_rfl,by kernel_rfl,by kernel_rfl,by kernel_rfl,by kernel_rfl,by kernel_rfl,by kernel_rfl,by kernel_rfl,by kernel_rfl,by kernel_rfl,by kernel_rfl,by kernel_rfl,by kernel_rfl,by kernel_rfl,by kernel_rfl,by kernel_rfl,by kernel_rfl,by kernel_rfl,by kernel_rfl,by kernel_rfl,by kernel_rfl,by kernel_rfl,by kernel_rfl,by kernel_rfl,by kernel_rfl,by kernel_rfl,by kernel_rfl,by kernel_rfl,by kernel_rfl,by kernel_rfl,by kernel_rfl,by kernel_rfl,by kernel_rfl,by kernel_rfl,by kernel_rfl,by kernel_rfl,by kernel_rfl,by kernel_rfl,by kernel_rfl,by kernel_rfl,by kernel_rfl,by kernel_rfl,by kernel_rfl,by kernel_rfl,by kernel_rfl,by kernel_rfl,by kernel_rfl,by kernel_rfl,by kernel_rfl,by kernel_rfl,by kernel_rfl,by kernel_rfl,by kernel_rfl,by kernel_rfl,by kernel_rfl,by kernel_rfl,by kernel_rfl,by kernel_rfl,by kernel_rfl,by kernel_rfl,by kernel_rfl,by kernel_rfl,by kernel_rfl,by kernel_rfl,by kernel_rfl,by kernel_rfl,by kernel_rfl,by kernel_rfl,by kernel_rfl,by kernel_rfl,by kernel_rfl,by kernel_rfl,by kernel_rfl,by kernel_rfl,by kernel_rfl,by kernel_rfl,by kernel_rfl,by kernel_rfl,by kernel_rfl⟩
theorem tf2:
 p7 Tryd.prog 114 1=some (1,1)∧
 wT Tryd.prog 114 2=some (2,101)∧
 p7 Tryd.prog 114 2=some (2,1)∧
 wT Tryd.prog 114 3=some (3,3)∧
 p7 Tryd.prog 114 3=some (3,1)∧
 q9 Tryd.prog 114=none∧
 rP Tryd.prog 114=some [.raw (.map none),.raw (.map none),.raw (.map none),.int .i64 0]∧
 vE Tryd.prog 114=false∧
 rC Tryd.prog 114=true∧
 tE Tryd.prog 114=true∧
 rX Tryd.prog 118=some (false,1)∧
 q9 Tryd.prog 118=some (122,2,24)∧
 rP Tryd.prog 118=some [.nE true 0 []]∧
 vE Tryd.prog 118=false∧
 rC Tryd.prog 118=true∧
 tE Tryd.prog 118=true∧
 rX Tryd.prog 120=some (true,2)∧
 ze Tryd.prog 120=true∧
 wT Tryd.prog 120 0=some (0,4)∧
 p7 Tryd.prog 120 0=some (0,1)∧
 wT Tryd.prog 120 1=some (1,118)∧
 p7 Tryd.prog 120 1=some (1,1)∧
 q9 Tryd.prog 120=none∧
 rP Tryd.prog 120=some [.bool false,.nE true 0 []]∧
 vE Tryd.prog 120=false∧
 rC Tryd.prog 120=true∧
 tE Tryd.prog 120=true∧
 rX Tryd.prog 122=some (true,2)∧
 ze Tryd.prog 122=true∧
 wT Tryd.prog 122 0=some (0,9)∧
 p7 Tryd.prog 122 0=some (0,1)∧
 wT Tryd.prog 122 1=some (1,3)∧
 p7 Tryd.prog 122 1=some (1,1)∧
 q9 Tryd.prog 122=none∧
 rP Tryd.prog 122=some [.str hU,.int .i64 0]∧
 vE Tryd.prog 122=false∧
 rC Tryd.prog 122=true∧
 tE Tryd.prog 122=true∧
 rX Tryd.prog 145=some (true,256)∧
 Xu Tryd.prog 145=some (256,1)∧
 ze Tryd.prog 145=true∧
 q9 Tryd.prog 145=none∧
 vE Tryd.prog 145=false∧
 rC Tryd.prog 145=true∧
 tE Tryd.prog 145=true∧
 rX Tryd.prog 147=some (false,1)∧
 q9 Tryd.prog 147=none∧
 rP Tryd.prog 147=some [.raw .nilFunc]∧
 vE Tryd.prog 147=false∧
 rC Tryd.prog 147=true∧
 tE Tryd.prog 147=true∧
 rX Tryd.prog 152=some (false,1)∧
 q9 Tryd.prog 152=none∧
 rP Tryd.prog 152=some [.int .u64 0]∧
 vE Tryd.prog 152=false∧
 QM Tryd.prog 152=some .u64∧
 rC Tryd.prog 152=false∧
 tE Tryd.prog 152=true∧
 rX Tryd.prog 153=some (false,1)∧
 q9 Tryd.prog 153=some (155,2,16)∧
 rP Tryd.prog 153=some [.nE true 0 []]∧
 vE Tryd.prog 153=false∧
 rC Tryd.prog 153=true∧
 tE Tryd.prog 153=true∧
 rX Tryd.prog 155=some (true,2)∧
 ze Tryd.prog 155=true∧
 wT Tryd.prog 155 0=some (0,3)∧
 p7 Tryd.prog 155 0=some (0,1)∧
 wT Tryd.prog 155 1=some (1,3)∧
 p7 Tryd.prog 155 1=some (1,1)∧
 q9 Tryd.prog 155=none∧
 rP Tryd.prog 155=some [.int .i64 0,.int .i64 0]∧
 vE Tryd.prog 155=false∧
 rC Tryd.prog 155=true∧
 tE Tryd.prog 155=true∧
 rX Tryd.prog 156=some (false,1)∧
 q9 Tryd.prog 156=none∧
 rP Tryd.prog 156=some [.int .u32 0]∧
 vE Tryd.prog 156=false∧
 QM Tryd.prog 156=some .u32∧
 rC Tryd.prog 156=false∧
 tE Tryd.prog 156=true∧
 rX Tryd.prog 158=some (false,1)∧
 q9 Tryd.prog 158=none∧
 rP Tryd.prog 158=some [.raw (.pointer none)]∧
 vE Tryd.prog 158=false∧
 rC Tryd.prog 158=true∧
 tE Tryd.prog 158=true∧
 rX Tryd.prog 161=some (false,1)∧
 q9 Tryd.prog 161=some (167,3,6)∧
 rP Tryd.prog 161=some [.nE true 0 []]∧
 vE Tryd.prog 161=false∧
 rC Tryd.prog 161=true∧
 tE Tryd.prog 161=true∧
 rX Tryd.prog 162=some (false,1)∧
 q9 Tryd.prog 162=some (170,3,12)∧
 rP Tryd.prog 162=some [.nE true 0 []]∧
 vE Tryd.prog 162=false∧
 rC Tryd.prog 162=true∧
 tE Tryd.prog 162=true∧
 rX Tryd.prog 164=some (true,3)∧
 ze Tryd.prog 164=true∧
 wT Tryd.prog 164 0=some (0,161)∧
 p7 Tryd.prog 164 0=some (0,1)∧
 wT Tryd.prog 164 1=some (1,162)∧
 p7 Tryd.prog 164 1=some (1,1)∧
 wT Tryd.prog 164 2=some (2,3)∧
 p7 Tryd.prog 164 2=some (2,1)∧
 q9 Tryd.prog 164=none∧
 rP Tryd.prog 164=some [.nE true 0 [],.nE true 0 [],.int .i64 0]∧
 vE Tryd.prog 164=false∧
 rC Tryd.prog 164=true∧
 tE Tryd.prog 164=true∧
 rX Tryd.prog 165=some (false,1)∧
 q9 Tryd.prog 165=none∧
 rP Tryd.prog 165=some [.int .u16 0]∧
 vE Tryd.prog 165=false∧
 QM Tryd.prog 165=some .u16∧
 rC Tryd.prog 165=false∧
 tE Tryd.prog 165=true:=
 ⟨by kernel_rfl,by kernel_rfl,by kernel_rfl,by kernel_rfl,by kernel_rfl,by kernel_rfl,by kernel_rfl,by kernel_rfl,by kernel_rfl,by kernel_rfl,by kernel_rfl,by kernel_rfl,by kernel_rfl,by kernel_rfl,by kernel_rfl,by kernel_rfl,by kernel_rfl,by kernel_rfl,by kernel_rfl,by kernel_rfl,by kernel_rfl,by kernel_rfl,by kernel_rfl,by kernel_rfl,by kernel_rfl,by kernel_rfl,by kernel_rfl,by kernel_rfl,by kernel_rfl,by kernel_rfl,by kernel_rfl,by kernel_rfl,by kernel_rfl,by kernel_rfl,by kernel_rfl,by kernel_rfl,by kernel_rfl,by kernel_rfl,by kernel_rfl,by kernel_rfl,by kernel_rfl,by kernel_rfl,by kernel_rfl,by kernel_rfl,by kernel_rfl,by kernel_rfl,by kernel_rfl,by kernel_rfl,by kernel_rfl,by kernel_rfl,by kernel_rfl,by kernel_rfl,by kernel_rfl,by kernel_rfl,by kernel_rfl,by kernel_rfl,by kernel_rfl,by kernel_rfl,by kernel_rfl,by kernel_rfl,by kernel_rfl,by kernel_rfl,by kernel_rfl,by kernel_rfl,by kernel_rfl,by kernel_rfl,by kernel_rfl,by kernel_rfl,by kernel_rfl,by kernel_rfl,by kernel_rfl,by kernel_rfl,by kernel_rfl,by kernel_rfl,by kernel_rfl,by kernel_rfl,by kernel_rfl,by kernel_rfl,by kernel_rfl,by kernel_rfl,by kernel_rfl,by kernel_rfl,by kernel_rfl,by kernel_rfl,by kernel_rfl,by kernel_rfl,by kernel_rfl,by kernel_rfl,by kernel_rfl,by kernel_rfl,by kernel_rfl,by kernel_rfl,by kernel_rfl,by kernel_rfl,by kernel_rfl,by kernel_rfl,by kernel_rfl,by kernel_rfl,by kernel_rfl,by kernel_rfl,by kernel_rfl,by kernel_rfl,by kernel_rfl,by kernel_rfl,by kernel_rfl,by kernel_rfl,by kernel_rfl,by kernel_rfl,by kernel_rfl,by kernel_rfl,by kernel_rfl,by kernel_rfl,by kernel_rfl,by kernel_rfl,by kernel_rfl,by kernel_rfl,by kernel_rfl,by kernel_rfl,by kernel_rfl,by kernel_rfl⟩
theorem tf3:
 rX Tryd.prog 167=some (true,3)∧
 ze Tryd.prog 167=true∧
 wT Tryd.prog 167 0=some (0,165)∧
 p7 Tryd.prog 167 0=some (0,1)∧
 wT Tryd.prog 167 1=some (1,165)∧
 p7 Tryd.prog 167 1=some (1,1)∧
 wT Tryd.prog 167 2=some (2,165)∧
 p7 Tryd.prog 167 2=some (2,1)∧
 q9 Tryd.prog 167=none∧
 rP Tryd.prog 167=some [.int .u16 0,.int .u16 0,.int .u16 0]∧
 vE Tryd.prog 167=false∧
 rC Tryd.prog 167=true∧
 tE Tryd.prog 167=true∧
 rX Tryd.prog 170=some (true,3)∧
 ze Tryd.prog 170=true∧
 wT Tryd.prog 170 0=some (0,156)∧
 p7 Tryd.prog 170 0=some (0,1)∧
 wT Tryd.prog 170 1=some (1,156)∧
 p7 Tryd.prog 170 1=some (1,1)∧
 wT Tryd.prog 170 2=some (2,156)∧
 p7 Tryd.prog 170 2=some (2,1)∧
 q9 Tryd.prog 170=none∧
 rP Tryd.prog 170=some [.int .u32 0,.int .u32 0,.int .u32 0]∧
 vE Tryd.prog 170=false∧
 rC Tryd.prog 170=true∧
 tE Tryd.prog 170=true∧
 rX Tryd.prog 173=some (true,2)∧
 ze Tryd.prog 173=true∧
 wT Tryd.prog 173 0=some (0,5)∧
 p7 Tryd.prog 173 0=some (0,1)∧
 wT Tryd.prog 173 1=some (1,5)∧
 p7 Tryd.prog 173 1=some (1,1)∧
 q9 Tryd.prog 173=none∧
 rP Tryd.prog 173=some [.int .u8 0,.int .u8 0]∧
 vE Tryd.prog 173=false∧
 rC Tryd.prog 173=true∧
 tE Tryd.prog 173=true∧
 rX Tryd.prog 174=some (true,32)∧
 Xu Tryd.prog 174=some (16,2)∧
 ze Tryd.prog 174=true∧
 p7 Tryd.prog 174 0=some (0,2)∧
 p7 Tryd.prog 174 1=some (2,2)∧
 p7 Tryd.prog 174 2=some (4,2)∧
 p7 Tryd.prog 174 3=some (6,2)∧
 p7 Tryd.prog 174 4=some (8,2)∧
 p7 Tryd.prog 174 5=some (10,2)∧
 p7 Tryd.prog 174 6=some (12,2)∧
 p7 Tryd.prog 174 7=some (14,2)∧
 p7 Tryd.prog 174 8=some (16,2)∧
 p7 Tryd.prog 174 9=some (18,2)∧
 p7 Tryd.prog 174 10=some (20,2)∧
 p7 Tryd.prog 174 11=some (22,2)∧
 p7 Tryd.prog 174 12=some (24,2)∧
 p7 Tryd.prog 174 13=some (26,2)∧
 p7 Tryd.prog 174 14=some (28,2)∧
 p7 Tryd.prog 174 15=some (30,2)∧
 q9 Tryd.prog 174=none∧
 rP Tryd.prog 174=some [.int .u8 0,.int .u8 0,.int .u8 0,.int .u8 0,.int .u8 0,.int .u8 0,.int .u8 0,.int .u8 0,.int .u8 0,.int .u8 0,.int .u8 0,.int .u8 0,.int .u8 0,.int .u8 0,.int .u8 0,.int .u8 0,.int .u8 0,.int .u8 0,.int .u8 0,.int .u8 0,.int .u8 0,.int .u8 0,.int .u8 0,.int .u8 0,.int .u8 0,.int .u8 0,.int .u8 0,.int .u8 0,.int .u8 0,.int .u8 0,.int .u8 0,.int .u8 0]∧
 vE Tryd.prog 174=false∧
 rC Tryd.prog 174=true∧
 tE Tryd.prog 174=true∧
 tbl Tryd.prog 4=true∧
 Z7 Tryd.prog 20=true:=
 ⟨by kernel_rfl,by kernel_rfl,by kernel_rfl,by kernel_rfl,by kernel_rfl,by kernel_rfl,by kernel_rfl,by kernel_rfl,by kernel_rfl,by kernel_rfl,by kernel_rfl,by kernel_rfl,by kernel_rfl,by kernel_rfl,by kernel_rfl,by kernel_rfl,by kernel_rfl,by kernel_rfl,by kernel_rfl,by kernel_rfl,by kernel_rfl,by kernel_rfl,by kernel_rfl,by kernel_rfl,by kernel_rfl,by kernel_rfl,by kernel_rfl,by kernel_rfl,by kernel_rfl,by kernel_rfl,by kernel_rfl,by kernel_rfl,by kernel_rfl,by kernel_rfl,by kernel_rfl,by kernel_rfl,by kernel_rfl,by kernel_rfl,by kernel_rfl,by kernel_rfl,by kernel_rfl,by kernel_rfl,by kernel_rfl,by kernel_rfl,by kernel_rfl,by kernel_rfl,by kernel_rfl,by kernel_rfl,by kernel_rfl,by kernel_rfl,by kernel_rfl,by kernel_rfl,by kernel_rfl,by kernel_rfl,by kernel_rfl,by kernel_rfl,by kernel_rfl,by kernel_rfl,by kernel_rfl,by kernel_rfl,by kernel_rfl,by kernel_rfl,by kernel_rfl⟩
theorem mixed:Tryd.prog.follows .mixedOrders=true:=by kernel_rfl
attribute [go_sem] tf0 tf1 tf2 tf3
end Go.Abs
namespace Go.Abs
open Go.Proofs
set_option maxRecDepth 100000
theorem mT.aggEq (a b:mT):Ry Tryd.prog 122 a.cells b.cells=True:=by
 refine eq_true (aggEq_flat (by kernel_rfl) (by kernel_rfl) (by kernel_rfl) ?_)
 rw[mT.cells_eq,mT.cells_eq]
 exact ⟨⟨by decide,by kernel_rfl,by kernel_rfl,by dsimp only;kernel_rfl⟩,⟨by decide,by kernel_rfl,by kernel_rfl,rfl,.i64,by kernel_rfl⟩,trivial⟩
theorem mT.Xn (a b:mT):Go.Abs.Xn a.cells b.cells=((a.name==b.name)&&(a.plus==b.plus)):=by
 rw[mT.cells_eq,mT.cells_eq]
 simp only[Go.Abs.Xn,eq1,EY,Bool.and_true]
attribute [go_sem] mT.aggEq mT.Xn
theorem mT.aggEqL (a:mT) (y0:Str) (y1:Int):Ry Tryd.prog 122 a.cells [.str (sb y0),.int .i64 y1]=True:=by
 have:=mT.aggEq a (mT.mk y0 y1)
 rwa [mT.cells_eq (mT.mk y0 y1)] at this
theorem mT.eqBL (a:mT) (y0:Str) (y1:Int):Go.Abs.Xn a.cells [.str (sb y0),.int .i64 y1]=((a.name==y0)&&(a.plus==y1)):=by
 have:=mT.Xn a (mT.mk y0 y1)
 rwa [mT.cells_eq (mT.mk y0 y1)] at this
attribute [go_sem] mT.aggEqL mT.eqBL
theorem Notation.tyInj: ∀x y:Notation,((nF Notation.cel)).enc x=((nF Notation.cel)).enc y→x=y:=fun x y h=>by
 have h2:Notation.cells x=Notation.cells y:=AV.agg.inj h
 have h3:Notation.of [] x.cells=Notation.of [] y.cells:=by rw[h2]
 rw[Notation.sJ,Notation.sJ] at h3
 exact Option.some.inj h3
theorem Notation.mapD:(∀xs,NL (nF Notation.cel) (.map (mp (mcT (nF Notation.cel)) xs))=some xs)∧NL (nF Notation.cel) (.map [])=some []∧NL (nF Notation.cel) (.map (mp mcB []))=some []:=ddMT_all Notation.tyInj
theorem Notation.mapUS (l:Nat) (s:Str) (v:Notation) (xs:List (Str×Notation)):mapUpEff l (sb s) (.agg v.cells) (some (.map (mp (mcT (nF Notation.cel)) xs)))=some {val:= .any,rd:=[l],up:=[(l,.map (mp (mcT (nF Notation.cel)) (zW s v xs)))]}:=by
 have:=WQ (t:=(nF Notation.cel)) (l:=l) (s:=s) (v:=v) (xs:=xs)
 rwa [show ((nF Notation.cel)).enc v= .agg v.cells from rfl] at this
theorem Notation.mapNS (l:Nat) (s:Str) (v:Notation):mapUpEff l (sb s) (.agg v.cells) (some (.map (mp mcB [])))=some {val:= .any,rd:=[l],up:=[(l,.map (mp (mcT (nF Notation.cel)) [(s,v)]))]}:=by
 have:=mapUp_nilB (t:=(nF Notation.cel)) (l:=l) (s:=s) (v:=v)
 rwa [show ((nF Notation.cel)).enc v= .agg v.cells from rfl] at this
theorem Notation.mapUL (l:Nat) (s:Str) (y0:List Str) (y1:Int) (y2:Int) (y3:Str) (xs:List (Str×Notation)):mapUpEff l (sb s) (.agg [.nE false 1 (mp n4 y0),.int .i64 y1,.int .i64 y2,.str (sb y3)]) (some (.map (mp (mcT (nF Notation.cel)) xs)))=some {val:= .any,rd:=[l],up:=[(l,.map (mp (mcT (nF Notation.cel)) (zW s (Notation.mk y0 y1 y2 y3) xs)))]}:=by
 have:=WQ (t:=(nF Notation.cel)) (l:=l) (s:=s) (v:=(Notation.mk y0 y1 y2 y3)) (xs:=xs)
 rwa [show ((nF Notation.cel)).enc (Notation.mk y0 y1 y2 y3)= .agg [.nE false 1 (mp n4 y0),.int .i64 y1,.int .i64 y2,.str (sb y3)] from congrArg AV.agg (Notation.cells_eq (Notation.mk y0 y1 y2 y3))] at this
theorem Notation.mapNL (l:Nat) (s:Str) (y0:List Str) (y1:Int) (y2:Int) (y3:Str):mapUpEff l (sb s) (.agg [.nE false 1 (mp n4 y0),.int .i64 y1,.int .i64 y2,.str (sb y3)]) (some (.map (mp mcB [])))=some {val:= .any,rd:=[l],up:=[(l,.map (mp (mcT (nF Notation.cel)) [(s,(Notation.mk y0 y1 y2 y3))]))]}:=by
 have:=mapUp_nilB (t:=(nF Notation.cel)) (l:=l) (s:=s) (v:=(Notation.mk y0 y1 y2 y3))
 rwa [show ((nF Notation.cel)).enc (Notation.mk y0 y1 y2 y3)= .agg [.nE false 1 (mp n4 y0),.int .i64 y1,.int .i64 y2,.str (sb y3)] from congrArg AV.agg (Notation.cells_eq (Notation.mk y0 y1 y2 y3))] at this
attribute [go_sem] Notation.mapD Notation.mapUS Notation.mapUL Notation.mapNS Notation.mapNL
end Go.Abs
namespace Go.Abs
abbrev T3:Type:=(List (Str×Notation))
abbrev T4:Type:=(List (Str×Bool))
abbrev T8:Type:=((Int×Unit)×(T3×(T3×(T4×Unit))))
abbrev T0:Type:=(((List Syntax)×(Int×Unit))×T8)
abbrev T5:Type:=(PR (T0×(Syntax×(Int×Unit))) (T0×(Unit×Unit)))
abbrev Tj:Type:=(mO×Unit)
abbrev T6:Type:=(Tj×(Syntax×(Int×Unit)))
abbrev T7:Type:=(PR (T0×(Syntax×Unit)) (T0×(Unit×Unit)))
abbrev T9:Type:=((Tj×Unit)×(Syntax×Unit))
abbrev Ta:Type:=(Unit×((Syntax×Unit)×((Int×Unit)×((Int×Unit)×T0))))
abbrev Tb:Type:=(Unit×(T3×Unit))
abbrev Tc:Type:=(Unit×((List Syntax)×(T3×Unit)))
abbrev Td:Type:=(Notation×(Int×((List Syntax)×(Int×Unit))))
abbrev Te:Type:=(Tb×(Notation×((List Syntax)×(Bool×Unit))))
abbrev Tf:Type:=((Unit×Int)×(Unit×(T4×Unit)))
abbrev Tg:Type:=(List mP)
abbrev Th:Type:=(Tb×(Int×Unit))
abbrev Ti:Type:=((List Notation)×Unit)
abbrev Tk:Type:=((List Str)×Unit)
abbrev Tl:Type:=(Tb×(Bool×Unit))
abbrev Tm:Type:=((List Syntax)×Unit)
abbrev Tn:Type:=(T8×(Int×Unit))
abbrev To:Type:=(PR (Unit×Unit) (T8×Unit))
abbrev Tp:Type:=((List Notation)×Int)
abbrev Tq:Type:=(Notation×(Int×(Syntax×Unit)))
abbrev Ts:Type:=(Unit×(Unit×(T4×Unit)))
abbrev Tt:Type:=(Str×(Bool×Unit))
abbrev Tu:Type:=(Syntax×Int×Int)
abbrev Tv:Type:=(PR (T8×(Str×Tk)) (T8×(Str×Tk)))
abbrev Tw:Type:=((List Syntax)×Int)
abbrev Tx:Type:=(Str→(List Str)→(List Str)→Int→Int→Int→T3→T3→T4→Notation→Option Tn)
abbrev Tz:Type:=((List Notation)→Int→Int→T4→(List Str)→Option (List Str))
abbrev TA:Type:=(Str→Int→Int→Int→(List Str)→Option (List Str))
abbrev TB:Type:=((List Notation)→Int→(List Str)→Option (List Str))
abbrev TC:Type:=((List Notation)→(List Notation)→Int→Option Bool)
abbrev TD:Type:=(Tf×(Bool×Unit))
abbrev TE:Type:=((T4×Unit)×Unit)
abbrev TF:Type:=(Str→Int→Int→(List Str)→Option (List Str))
end Go.Abs
