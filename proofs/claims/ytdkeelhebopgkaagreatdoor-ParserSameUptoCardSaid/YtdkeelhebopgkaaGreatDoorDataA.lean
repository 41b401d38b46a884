/- A part of the proof: the data of the program. -/
import Derived.Test.YtdkeelhebopgkaaGreatDoorCoreC
import Derived.Test.YtdkeelhebopgkaaGreatDoorCoreD
import Derived.Test.YtdkeelhebopgkaaGreatDoorProg
import Derived.KernelRfl
set_option linter.all false
open Option renaming bind_eq_some_iff → iE
open Option.some renaming injEq → iF
open ByteArray renaming empty → iG
open Bool renaming true_or → iH
open List renaming take → iI,drop → iJ,cons_append → iK,nil_append → iL,append_nil → iM,map_cons → iN,drop_succ_cons → iO
namespace Go.Abs
set_option maxRecDepth 10000
theorem icell_nb (n:Nat) (x:Int):nbL n (Sl x):=⟨trivial,trivial⟩
theorem ucell_nb (n:Nat) (x:Int):nbL n (Ze x):=⟨trivial,trivial⟩
theorem Sq (n:Nat) (x:Str):nbL n (mo x):=⟨trivial,trivial⟩
theorem bcell_nb (n:Nat) (x:Bool):nbL n (Wh x):=⟨trivial,trivial⟩
theorem pV {α:Type} {f:α→List AV} {n:Nat} (h: ∀x,nbL n (f x)): ∀xs:List α,Lu n (mp f xs)
 |[]=>by rw[qe];trivial
 |x::xs=>by have:=pV h xs;rw[qe] at this ⊢;exact ⟨h x,this⟩
theorem Cp {cs:List AV} {n:Nat} (h:cs.length=n):mg true n cs=some (.agg cs):=by
 simp only[mg,←h,Nat.le_refl,if_true,List.take_length]
theorem cell_nbs:(∀ (n:Nat) (xs:List Int),Lu n (mp Sl xs)=True)∧(∀ (n:Nat) (xs:List Int),Lu n (mp Ze xs)=True)∧(∀ (n:Nat) (xs:List Str),Lu n (mp mo xs)=True)∧ ∀ (n:Nat) (xs:List Bool),Lu n (mp Wh xs)=True:=⟨fun n xs=>eq_true (pV (icell_nb n) xs),fun n xs=>eq_true (pV (ucell_nb n) xs),fun n xs=>eq_true (pV (Sq n) xs),fun n xs=>eq_true (pV (bcell_nb n) xs)⟩
theorem cell_rens:(∀ (ρ:Nat→Nat) (xs:List Int),CU ρ (mp Sl xs)=mp Sl xs)∧(∀ (ρ:Nat→Nat) (xs:List Str),CU ρ (mp mo xs)=mp mo xs)∧ ∀ (ρ:Nat→Nat) (xs:List Bool),CU ρ (mp Wh xs)=mp Wh xs:=⟨fun ρ xs=>sw ρ _ (pV (icell_nb 0) xs),fun ρ xs=>sw ρ _ (pV (Sq 0) xs),fun ρ xs=>sw ρ _ (pV (bcell_nb 0) xs)⟩
attribute [go_sem] Sl mo Wh Ze cell_nbs cell_rens
theorem oG {α β:Type} {f:β→Option α} {g:α→β} (h: ∀x,f (g x)=some x): ∀ (xs:List α) (i:Nat) (r:β),mapO f ((mp g xs).set i r)=bif decide (i<xs.length) then (f r).bind fun y=>some (xs.set i y) else some xs:=by
 intro xs
 rw[qe]
 induction xs with
 |nil=>intro i r;simp [mapO]
 |cons x xs ih=>
  intro i r
  cases i with
  |zero=>
   simp only[iN,List.set_cons_zero,mapO,Zc h,List.length_cons,Nat.zero_lt_succ,decide_true,cond_true]
   cases f r<;>rfl
  |succ i=>
   simp only[iN,List.set_cons_succ,mapO,h,ih i r,List.length_cons,Nat.succ_lt_succ_iff,Option.bind_some]
   by_cases hi:i<xs.length
   ·simp only[hi,decide_true,cond_true];cases f r<;>rfl
   ·simp only[hi,decide_false,cond_false];rfl
theorem mapO_set1:(∀ (xs:List Int) (i:Nat) (r:List AV),mapO (dI1 .i64) ((mp Sl xs).set i r)=bif decide (i<xs.length) then (dI1 .i64 r).bind fun y=>some (xs.set i y) else some xs)∧(∀ (xs:List Bool) (i:Nat) (r:List AV),mapO dB1 ((mp Wh xs).set i r)=bif decide (i<xs.length) then (dB1 r).bind fun y=>some (xs.set i y) else some xs)∧(∀ (xs:List Str) (i:Nat) (r:List AV),mapO dS1 ((mp mo xs).set i r)=bif decide (i<xs.length) then (dS1 r).bind fun y=>some (xs.set i y) else some xs):=⟨oG fun x=>by simp [dI1,Sl,dI],oG fun x=>rfl,oG fun x=>rfl⟩
attribute [go_sem] mapO_set1
theorem mapO_repl {α β:Type} {f:β→Option α} {z:β}: ∀n:Nat,mapO f (List.replicate n z)=bif n==0 then some [] else (f z).bind fun y=>some (List.replicate n y)
 |0=>rfl
 |n+1=>by
  simp only[List.replicate_succ,mapO,mapO_repl n]
  cases f z with
  |none=>rfl
  |some y=>cases n<;>rfl
attribute [go_sem] mapO_repl
theorem lst_of {β:Type} {t:Bool} {z k:Nat} {r ug:List (List AV)} {o:Option β} {x:β} (hok:o=some x→Qh r ug) (h:(bif Ht z k r then o else none)=some x):Sub (.l5 t z r) (.l5 false k ug):=by
 cases hs:Ht z k r with
 |false=>simp [hs] at h
 |true=>rw[hs] at h;exact Ql hs (hok h)
structure kR where
 name:Str
 plus:Int
def kR.cells (x:kR):List AV:=[.str (sb x.name),.int .i64 x.plus]
theorem kR.mD (x:kR):x.cells=[.str (sb x.name),.int .i64 x.plus]:=rfl
theorem kR.cells_eq (x:kR):x.cells=[.str (sb x.name),.int .i64 x.plus]:=rfl
attribute [irreducible] kR.cells
theorem kR.length (x:kR):x.cells.length=2:=by rw[kR.cells_eq];rfl
theorem kR.scalar (x:kR):x.cells.all AV.scalar=true:=by rw[kR.cells_eq];rfl
theorem kR.nb (n:Nat) (x:kR):nbL n x.cells:=by
 rw[kR.mD]
 exact ⟨trivial,trivial,trivial⟩
def kR.of (H:List AObj):List AV→Option kR
 |[c0,c1]=>(dS c0).bind fun x0=>(dI .i64 c1).bind fun x1=>some (.mk x0 x1)
 |_=>none
theorem kR.wm {H:List AObj} {c0 c1:AV}:kR.of H [c0,c1]=(dS c0).bind fun x0=>(dI .i64 c1).bind fun x1=>some (.mk x0 x1):=rfl
theorem kR.nY (H:List AObj) (x:kR):kR.of H [.str (sb x.name),.int .i64 x.plus]=some x:=by
 simp only[kR.wm,Mp,Hu,Sk,x8,Ht,beq_self_eq_true,iH,cond_true,dL]
 try (cases x;rfl)
theorem kR.nH (H:List AObj) (x:kR):kR.of H x.cells=some x:=by rw[kR.cells_eq];exact kR.nY H x
theorem kR.Bo {H:List AObj} {n:Nat} {cs:List AV} {x:kR} (h:kR.of H cs=some x):oN H n cs x.cells:=by
 unfold kR.of at h
 split at h
 ·simp only[iE,iF] at h
  obtain ⟨x0,h0,x1,h1,rfl⟩:=h
  rw[kR.mD]
  exact (oN.cons (Wg h0) (oN.cons (EU h1) oN.nil))
 ·cases h
def kR.cel:R0 kR:=⟨kR.cells,kR.of,fun _ _ _ _ h=>kR.Bo h,kR.nb⟩
def kR.row:Row kR:=⟨kR.cells,kR.of [],2,fun _ _ h=>(kR.Bo (n:=0) h).toSub,kR.nb⟩
theorem kR.n7 (xs:List kR):mapO (kR.of []) (mp kR.cells xs)=some xs:=Cm (kR.nH []) xs
theorem kR.oG (xs:List kR) (i:Nat) (r:List AV):mapO (kR.of []) ((mp kR.cells xs).set i r)=bif decide (i<xs.length) then (kR.of [] r).bind fun y=>some (xs.set i y) else some xs:=Go.Abs.oG (kR.nH []) xs i r
attribute [go_sem low] kR.oG
theorem kR.Ki:kR.row.enc=kR.cells∧kR.row.dec=kR.of []∧kR.row.sz=2∧kR.cel.enc=kR.cells∧kR.cel.dec=kR.of:=⟨rfl,rfl,rfl,rfl,rfl⟩
theorem kR.eta (x:kR):kR.mk x.name x.plus=x:=by cases x;rfl
attribute [go_sem] kR.wm kR.nH kR.n7 kR.Ki kR.eta
theorem kR.prj:(∀ (y0:Str) (y1:Int),(kR.mk y0 y1).name=y0)∧(∀ (y0:Str) (y1:Int),(kR.mk y0 y1).plus=y1):=⟨fun _ _=>rfl,fun _ _=>rfl⟩
attribute [go_sem] kR.prj
theorem kR.nbs:(∀ (n:Nat) (x:kR),Go.Abs.nbL n x.cells=True)∧ ∀ (n:Nat) (xs:List kR),Go.Abs.Lu n (mp kR.cells xs)=True:=⟨fun n x=>eq_true (kR.nb n x),fun n xs=>eq_true (pV (kR.nb n) xs)⟩
theorem kR.Ss:(∀ (ρ:Nat→Nat) (x:kR),renL ρ x.cells=x.cells)∧ ∀ (ρ:Nat→Nat) (xs:List kR),CU ρ (mp kR.cells xs)=mp kR.cells xs:=⟨fun ρ x=>pg ρ _ (kR.nb 0 x),fun ρ xs=>sw ρ _ (pV (kR.nb 0) xs)⟩
theorem kR.vw (H:List AObj) (x:kR):Vv H x.cells=some (x.cells,[]):=C3 H _ (kR.nb 0 x)
attribute [go_sem] kR.vw
theorem kR.U6 (low:Nat) (H:List AObj) (x:kR):Sd low H x.cells=x.cells:=xY low H _ (kR.nb 0 x)
theorem kR.rpv (l:Nat) (ds:List AV) (x:kR):x.cells.map (rpV l ds)=x.cells:=AB _ (kR.nb 0 x)
attribute [go_sem] kR.rpv
theorem kR.tk:(∀x:kR,iI 2 x.cells=x.cells)∧ ∀x:kR,iJ 2 x.cells=[]:=⟨fun x=>by rw[kR.cells_eq];rfl,fun x=>by rw[kR.cells_eq];rfl⟩
attribute [go_sem] kR.tk
theorem kR.reads:
 (∀x:kR,cellsOf (.agg x.cells)=some x.cells)∧
 (∀x:kR,mg true 2 x.cells=some (.agg x.cells))∧
 (∀x:kR,mg false 1 x.cells=some (.str (sb x.name)))∧
 (∀x:kR,mg false 1 (x.cells.drop 1)=some (.int .i64 x.plus)):=
 ⟨fun x=>by simp only[cellsOf,kR.scalar,if_true],
  fun x=>Cp (kR.length x),
  fun x=>by rw[kR.cells_eq];rfl,
  fun x=>by rw[kR.cells_eq];rfl⟩
theorem kR.St (x:kR) (o:Nat) (xs:List AV):splice x.cells o xs=splice [.str (sb x.name),.int .i64 x.plus] o xs:=by rw[kR.cells_eq]
theorem kR.Kj (x:kR) (o:Nat) (c:AV) (cs:List AV):splice (c::cs) o x.cells=splice (c::cs) o [.str (sb x.name),.int .i64 x.plus]:=by rw[kR.cells_eq]
theorem kR.app (x:kR) (l:List AV):x.cells++l=(.str (sb x.name):AV)::(.int .i64 x.plus:AV)::l:=by rw[kR.cells_eq];rfl
theorem kR.cns (x:kR) (c:AV):c::x.cells=[c,.str (sb x.name),.int .i64 x.plus]:=by rw[kR.cells_eq]
attribute [go_sem] kR.app kR.cns
attribute [go_sem] kR.nbs kR.Ss kR.U6 kR.reads kR.length kR.scalar
attribute [go_sem low] kR.St kR.Kj
structure kO where
 hole:Bool
 atoms:List kR
def kO.cells (x:kO):List AV:=[.bool x.hole,.l5 false 2 (mp kR.cells x.atoms)]
theorem kO.mD (x:kO):x.cells=[.bool x.hole,.l5 false 2 (mp kR.cells x.atoms)]:=rfl
theorem kO.cells_eq (x:kO):x.cells=[.bool x.hole,.l5 false 2 (mp kR.cells x.atoms)]:=rfl
attribute [irreducible] kO.cells
theorem kO.length (x:kO):x.cells.length=2:=by rw[kO.cells_eq];rfl
theorem kO.scalar (x:kO):x.cells.all AV.scalar=true:=by rw[kO.cells_eq];rfl
theorem kO.nb (n:Nat) (x:kO):nbL n x.cells:=by
 rw[kO.mD]
 exact ⟨trivial,pV (kR.nb n) _,trivial⟩
def kO.of (H:List AObj):List AV→Option kO
 |[c0,c1]=>(dB c0).bind fun x0=>(dL kR.row H c1).bind fun x1=>some (.mk x0 x1)
 |_=>none
theorem kO.wm {H:List AObj} {c0 c1:AV}:kO.of H [c0,c1]=(dB c0).bind fun x0=>(dL kR.row H c1).bind fun x1=>some (.mk x0 x1):=rfl
theorem kO.nY (H:List AObj) (x:kO):kO.of H [.bool x.hole,.l5 false 2 (mp kR.cells x.atoms)]=some x:=by
 simp only[kO.wm,Mp,Hu,Sk,x8,Ht,beq_self_eq_true,iH,cond_true,dL,kR.n7,kR.row]
 try (cases x;rfl)
theorem kO.nH (H:List AObj) (x:kO):kO.of H x.cells=some x:=by rw[kO.cells_eq];exact kO.nY H x
theorem kO.Bo {H:List AObj} {n:Nat} {cs:List AV} {x:kO} (h:kO.of H cs=some x):oN H n cs x.cells:=by
 unfold kO.of at h
 split at h
 ·simp only[iE,iF] at h
  obtain ⟨x0,h0,x1,h1,rfl⟩:=h
  rw[kO.mD]
  exact (oN.cons (dB_ok h0) (oN.cons (Pc h1) oN.nil))
 ·cases h
def kO.cel:R0 kO:=⟨kO.cells,kO.of,fun _ _ _ _ h=>kO.Bo h,kO.nb⟩
def kO.row:Row kO:=⟨kO.cells,kO.of [],2,fun _ _ h=>(kO.Bo (n:=0) h).toSub,kO.nb⟩
theorem kO.n7 (xs:List kO):mapO (kO.of []) (mp kO.cells xs)=some xs:=Cm (kO.nH []) xs
theorem kO.oG (xs:List kO) (i:Nat) (r:List AV):mapO (kO.of []) ((mp kO.cells xs).set i r)=bif decide (i<xs.length) then (kO.of [] r).bind fun y=>some (xs.set i y) else some xs:=Go.Abs.oG (kO.nH []) xs i r
attribute [go_sem low] kO.oG
theorem kO.Ki:kO.row.enc=kO.cells∧kO.row.dec=kO.of []∧kO.row.sz=2∧kO.cel.enc=kO.cells∧kO.cel.dec=kO.of:=⟨rfl,rfl,rfl,rfl,rfl⟩
theorem kO.eta (x:kO):kO.mk x.hole x.atoms=x:=by cases x;rfl
attribute [go_sem] kO.wm kO.nH kO.n7 kO.Ki kO.eta
theorem kO.prj:(∀ (y0:Bool) (y1:List kR),(kO.mk y0 y1).hole=y0)∧(∀ (y0:Bool) (y1:List kR),(kO.mk y0 y1).atoms=y1):=⟨fun _ _=>rfl,fun _ _=>rfl⟩
attribute [go_sem] kO.prj
theorem kO.nbs:(∀ (n:Nat) (x:kO),Go.Abs.nbL n x.cells=True)∧ ∀ (n:Nat) (xs:List kO),Go.Abs.Lu n (mp kO.cells xs)=True:=⟨fun n x=>eq_true (kO.nb n x),fun n xs=>eq_true (pV (kO.nb n) xs)⟩
theorem kO.Ss:(∀ (ρ:Nat→Nat) (x:kO),renL ρ x.cells=x.cells)∧ ∀ (ρ:Nat→Nat) (xs:List kO),CU ρ (mp kO.cells xs)=mp kO.cells xs:=⟨fun ρ x=>pg ρ _ (kO.nb 0 x),fun ρ xs=>sw ρ _ (pV (kO.nb 0) xs)⟩
theorem kO.vw (H:List AObj) (x:kO):Vv H x.cells=some (x.cells,[]):=C3 H _ (kO.nb 0 x)
attribute [go_sem] kO.vw
theorem kO.U6 (low:Nat) (H:List AObj) (x:kO):Sd low H x.cells=x.cells:=xY low H _ (kO.nb 0 x)
theorem kO.rpv (l:Nat) (ds:List AV) (x:kO):x.cells.map (rpV l ds)=x.cells:=AB _ (kO.nb 0 x)
attribute [go_sem] kO.rpv
theorem kO.tk:(∀x:kO,iI 2 x.cells=x.cells)∧ ∀x:kO,iJ 2 x.cells=[]:=⟨fun x=>by rw[kO.cells_eq];rfl,fun x=>by rw[kO.cells_eq];rfl⟩
attribute [go_sem] kO.tk
theorem kO.reads:
 (∀x:kO,cellsOf (.agg x.cells)=some x.cells)∧
 (∀x:kO,mg true 2 x.cells=some (.agg x.cells))∧
 (∀x:kO,mg false 1 x.cells=some (.bool x.hole))∧
 (∀x:kO,mg false 1 (x.cells.drop 1)=some (.l5 false 2 (mp kR.cells x.atoms))):=
 ⟨fun x=>by simp only[cellsOf,kO.scalar,if_true],
  fun x=>Cp (kO.length x),
  fun x=>by rw[kO.cells_eq];rfl,
  fun x=>by rw[kO.cells_eq];rfl⟩
theorem kO.St (x:kO) (o:Nat) (xs:List AV):splice x.cells o xs=splice [.bool x.hole,.l5 false 2 (mp kR.cells x.atoms)] o xs:=by rw[kO.cells_eq]
theorem kO.Kj (x:kO) (o:Nat) (c:AV) (cs:List AV):splice (c::cs) o x.cells=splice (c::cs) o [.bool x.hole,.l5 false 2 (mp kR.cells x.atoms)]:=by rw[kO.cells_eq]
theorem kO.app (x:kO) (l:List AV):x.cells++l=(.bool x.hole:AV)::(.l5 false 2 (mp kR.cells x.atoms):AV)::l:=by rw[kO.cells_eq];rfl
theorem kO.cns (x:kO) (c:AV):c::x.cells=[c,.bool x.hole,.l5 false 2 (mp kR.cells x.atoms)]:=by rw[kO.cells_eq]
attribute [go_sem] kO.app kO.cns
attribute [go_sem] kO.nbs kO.Ss kO.U6 kO.reads kO.length kO.scalar
attribute [go_sem low] kO.St kO.Kj
inductive Syntax where
 |mk (kind:Int) (text:Str) (num:Int) (names:List Str) (levels:List kO) (kids:List Syntax) (from_:Int) (to:Int)
def Syntax.kind:Syntax→Int| .mk x _ _ _ _ _ _ _=>x
def Syntax.text:Syntax→Str| .mk _ x _ _ _ _ _ _=>x
def Syntax.num:Syntax→Int| .mk _ _ x _ _ _ _ _=>x
def Syntax.names:Syntax→List Str| .mk _ _ _ x _ _ _ _=>x
def Syntax.levels:Syntax→List kO| .mk _ _ _ _ x _ _ _=>x
def Syntax.kids:Syntax→List Syntax| .mk _ _ _ _ _ x _ _=>x
def Syntax.from_:Syntax→Int| .mk _ _ _ _ _ _ x _=>x
def Syntax.to:Syntax→Int| .mk _ _ _ _ _ _ _ x=>x
mutual
def Syntax.cells:Syntax→List AV
 | .mk kind text num names levels kids from_ to=>[.int .i64 kind,.str (sb text),.int .i64 num,.l5 false 1 (mp mo names),.l5 false 2 (mp kO.cells levels),.l5 false 8 (Syntax.cellsL kids),.int .i64 from_,.int .i64 to]
def Syntax.cellsL:List Syntax→List (List AV)
 |[]=>[]
 |t::ts=>t.cells::Syntax.cellsL ts
end
theorem Syntax.cellsL_eq: ∀ts:List Syntax,Syntax.cellsL ts=mp Syntax.cells ts
 |[]=>by rw[qe];rfl
 |t::ts=>by rw[Syntax.cellsL,Syntax.cellsL_eq ts,qe,qe];rfl
theorem Syntax.mD (x:Syntax):x.cells=[.int .i64 x.kind,.str (sb x.text),.int .i64 x.num,.l5 false 1 (mp mo x.names),.l5 false 2 (mp kO.cells x.levels),.l5 false 8 (mp Syntax.cells x.kids),.int .i64 x.from_,.int .i64 x.to]:=by
 cases x
 simp only[Syntax.cells,Syntax.cellsL_eq]
 rfl
theorem Syntax.cells_eq (x:Syntax):x.cells=[.int .i64 x.kind,.str (sb x.text),.int .i64 x.num,.l5 false 1 (mp mo x.names),.l5 false 2 (mp kO.cells x.levels),.l5 false 8 (mp Syntax.cells x.kids),.int .i64 x.from_,.int .i64 x.to]:=by
 cases x
 simp only[Syntax.cells,Syntax.cellsL_eq,iK,iL,iM]
 rfl
attribute [irreducible] Syntax.cells
theorem Syntax.length (x:Syntax):x.cells.length=8:=by rw[Syntax.cells_eq];rfl
theorem Syntax.scalar (x:Syntax):x.cells.all AV.scalar=true:=by rw[Syntax.cells_eq];rfl
mutual
theorem Syntax.nb (n:Nat): ∀x:Syntax,nbL n x.cells
 | .mk kind text num names levels kids from_ to=>by
   rw[Syntax.mD]
   exact ⟨trivial,trivial,trivial,pV (Sq n) _,pV (kO.nb n) _,Syntax.Lu n kids,trivial,trivial,trivial⟩
theorem Syntax.Lu (n:Nat): ∀ts:List Syntax,Lu n (mp Syntax.cells ts)
 |[]=>by rw[qe];trivial
 |t::ts=>by have:=Syntax.Lu n ts;rw[qe] at this ⊢;exact ⟨Syntax.nb n t,this⟩
end
mutual
def Syntax.of0:List AV→Option Syntax
 |[c0,c1,c2,c3,c4,.l5 _ z5 r5,c6,c7]=>(dI .i64 c0).bind fun x0=>(dS c1).bind fun x1=>(dI .i64 c2).bind fun x2=>(dL nq [] c3).bind fun x3=>(dL kO.row [] c4).bind fun x4=>(bif Ht z5 8 r5 then Syntax.ofR r5 else none).bind fun x5=>(dI .i64 c6).bind fun x6=>(dI .i64 c7).bind fun x7=>some (.mk x0 x1 x2 x3 x4 x5 x6 x7)
 |_=>none
def Syntax.ofR:List (List AV)→Option (List Syntax)
 |[]=>some []
 |r::rs=>(Syntax.of0 r).bind fun x=>(Syntax.ofR rs).bind fun xs=>some (x::xs)
end
theorem Syntax.ofR_eq: ∀rs,Syntax.ofR rs=mapO Syntax.of0 rs
 |[]=>by simp only[Syntax.ofR,mapO]
 |r::rs=>by simp only[Syntax.ofR,mapO,Syntax.ofR_eq rs]
mutual
theorem Syntax.UC: ∀x:Syntax,Syntax.of0 x.cells=some x
 | .mk kind text num names levels kids from_ to=>by
   rw[Syntax.cells_eq]
   show Syntax.of0 [.int .i64 kind,.str (sb text),.int .i64 num,.l5 false 1 (mp mo names),.l5 false 2 (mp kO.cells levels),.l5 false 8 (mp Syntax.cells kids),.int .i64 from_,.int .i64 to]=_
   simp only[Syntax.of0,Mp,Hu,Sk,x8,Ht,beq_self_eq_true,iH,cond_true,dL,Syntax.ofR_cells kids,kO.n7,kO.row,GI,W5]
theorem Syntax.ofR_cells: ∀xs:List Syntax,Syntax.ofR (mp Syntax.cells xs)=some xs
 |[]=>by rw[qe];simp only[List.map_nil,Syntax.ofR]
 |x::xs=>by have h:=Syntax.ofR_cells xs;rw[qe] at h ⊢;simp only[iN,Syntax.ofR,Syntax.UC x,h,x8]
end
mutual
theorem Syntax.of0_ok: ∀ (x:Syntax) (r:List AV),Syntax.of0 r=some x→AW r x.cells
 | .mk kind text num names levels kids from_ to,r,h=>by
   unfold Syntax.of0 at h
   split at h
   ·simp only[iE,iF,Syntax.mk.injEq] at h
    obtain ⟨x0,h0,x1,h1,x2,h2,x3,h3,x4,h4,x5,h5,x6,h6,x7,h7,e0,e1,e2,e3,e4,e5,e6,e7⟩:=h
    rw[e0] at h0
    rw[e1] at h1
    rw[e2] at h2
    rw[e3] at h3
    rw[e4] at h4
    rw[e5] at h5
    rw[e6] at h6
    rw[e7] at h7
    rw[Syntax.mD]
    exact (AW.cons ((EU (H:=[]) (n:=0) h0).toSub) (AW.cons ((Wg (H:=[]) (n:=0) h1).toSub) (AW.cons ((EU (H:=[]) (n:=0) h2).toSub) (AW.cons ((Pc (H:=[]) (n:=0) h3).toSub) (AW.cons ((Pc (H:=[]) (n:=0) h4).toSub) (AW.cons (lst_of (Syntax.ofR_ok kids _) h5) (AW.cons ((EU (H:=[]) (n:=0) h6).toSub) (AW.cons ((EU (H:=[]) (n:=0) h7).toSub) AW.nil))))))))
   ·cases h
theorem Syntax.ofR_ok: ∀ (xs:List Syntax) (rs:List (List AV)),Syntax.ofR rs=some xs→Qh rs (mp Syntax.cells xs)
 |[],rs,h=>by
  cases rs with
  |nil=>rw[qe];exact Qh.nil
  |cons r rs=>
   simp only[Syntax.ofR,iE,iF] at h
   obtain ⟨_,_,_,_,h⟩:=h
   cases h
 |x::xs,rs,h=>by
  cases rs with
  |nil=>simp only[Syntax.ofR,iF] at h;cases h
  |cons r rs=>
   simp only[Syntax.ofR,iE,iF,List.cons.injEq] at h
   obtain ⟨_,hx,_,hys,rfl,rfl⟩:=h
   have h2:=Syntax.ofR_ok _ rs hys
   rw[qe] at h2 ⊢
   exact Qh.cons (Syntax.of0_ok _ r hx).subM h2
end
def Syntax.row:Row Syntax:=⟨Syntax.cells,Syntax.of0,8,fun r x h=>Syntax.of0_ok x r h,Syntax.nb⟩
theorem Syntax.n7 (xs:List Syntax):mapO Syntax.of0 (mp Syntax.cells xs)=some xs:=Cm Syntax.UC xs
theorem Syntax.oG (xs:List Syntax) (i:Nat) (r:List AV):mapO Syntax.of0 ((mp Syntax.cells xs).set i r)=bif decide (i<xs.length) then (Syntax.of0 r).bind fun y=>some (xs.set i y) else some xs:=Go.Abs.oG Syntax.UC xs i r
attribute [go_sem low] Syntax.oG
def Syntax.of (H:List AObj):List AV→Option Syntax
 |[c0,c1,c2,c3,c4,c5,c6,c7]=>(dI .i64 c0).bind fun x0=>(dS c1).bind fun x1=>(dI .i64 c2).bind fun x2=>(dL nq H c3).bind fun x3=>(dL kO.row H c4).bind fun x4=>(dL Syntax.row H c5).bind fun x5=>(dI .i64 c6).bind fun x6=>(dI .i64 c7).bind fun x7=>some (.mk x0 x1 x2 x3 x4 x5 x6 x7)
 |_=>none
theorem Syntax.wm {H:List AObj} {c0 c1 c2 c3 c4 c5 c6 c7:AV}:Syntax.of H [c0,c1,c2,c3,c4,c5,c6,c7]=(dI .i64 c0).bind fun x0=>(dS c1).bind fun x1=>(dI .i64 c2).bind fun x2=>(dL nq H c3).bind fun x3=>(dL kO.row H c4).bind fun x4=>(dL Syntax.row H c5).bind fun x5=>(dI .i64 c6).bind fun x6=>(dI .i64 c7).bind fun x7=>some (.mk x0 x1 x2 x3 x4 x5 x6 x7):=rfl
theorem Syntax.nY (H:List AObj) (x:Syntax):Syntax.of H [.int .i64 x.kind,.str (sb x.text),.int .i64 x.num,.l5 false 1 (mp mo x.names),.l5 false 2 (mp kO.cells x.levels),.l5 false 8 (mp Syntax.cells x.kids),.int .i64 x.from_,.int .i64 x.to]=some x:=by
 simp only[Syntax.wm,Mp,Hu,Sk,x8,Ht,beq_self_eq_true,iH,cond_true,dL,kO.n7,kO.row,Syntax.n7,Syntax.row,GI,W5]
 try (cases x;rfl)
theorem Syntax.nH (H:List AObj) (x:Syntax):Syntax.of H x.cells=some x:=by rw[Syntax.cells_eq];exact Syntax.nY H x
theorem Syntax.Bo {H:List AObj} {n:Nat} {cs:List AV} {x:Syntax} (h:Syntax.of H cs=some x):oN H n cs x.cells:=by
 unfold Syntax.of at h
 split at h
 ·simp only[iE,iF] at h
  obtain ⟨x0,h0,x1,h1,x2,h2,x3,h3,x4,h4,x5,h5,x6,h6,x7,h7,rfl⟩:=h
  rw[Syntax.mD]
  exact (oN.cons (EU h0) (oN.cons (Wg h1) (oN.cons (EU h2) (oN.cons (Pc h3) (oN.cons (Pc h4) (oN.cons (Pc h5) (oN.cons (EU h6) (oN.cons (EU h7) oN.nil))))))))
 ·cases h
def Syntax.cel:R0 Syntax:=⟨Syntax.cells,Syntax.of,fun _ _ _ _ h=>Syntax.Bo h,Syntax.nb⟩
theorem Syntax.Ki:Syntax.row.enc=Syntax.cells∧Syntax.row.dec=Syntax.of0∧Syntax.row.sz=8∧Syntax.cel.enc=Syntax.cells∧Syntax.cel.dec=Syntax.of:=⟨rfl,rfl,rfl,rfl,rfl⟩
theorem Syntax.eta (x:Syntax):Syntax.mk x.kind x.text x.num x.names x.levels x.kids x.from_ x.to=x:=by cases x;rfl
attribute [go_sem] Syntax.wm Syntax.nH Syntax.n7 Syntax.Ki Syntax.eta
attribute [go_sem] Syntax.of0 Syntax.UC
attribute [go_sem] Syntax.ofR_eq
theorem Syntax.prj:(∀ (y0:Int) (y1:Str) (y2:Int) (y3:List Str) (y4:List kO) (y5:List Syntax) (y6:Int) (y7:Int),(Syntax.mk y0 y1 y2 y3 y4 y5 y6 y7).kind=y0)∧(∀ (y0:Int) (y1:Str) (y2:Int) (y3:List Str) (y4:List kO) (y5:List Syntax) (y6:Int) (y7:Int),(Syntax.mk y0 y1 y2 y3 y4 y5 y6 y7).text=y1)∧(∀ (y0:Int) (y1:Str) (y2:Int) (y3:List Str) (y4:List kO) (y5:List Syntax) (y6:Int) (y7:Int),(Syntax.mk y0 y1 y2 y3 y4 y5 y6 y7).num=y2)∧(∀ (y0:Int) (y1:Str) (y2:Int) (y3:List Str) (y4:List kO) (y5:List Syntax) (y6:Int) (y7:Int),(Syntax.mk y0 y1 y2 y3 y4 y5 y6 y7).names=y3)∧(∀ (y0:Int) (y1:Str) (y2:Int) (y3:List Str) (y4:List kO) (y5:List Syntax) (y6:Int) (y7:Int),(Syntax.mk y0 y1 y2 y3 y4 y5 y6 y7).levels=y4)∧(∀ (y0:Int) (y1:Str) (y2:Int) (y3:List Str) (y4:List kO) (y5:List Syntax) (y6:Int) (y7:Int),(Syntax.mk y0 y1 y2 y3 y4 y5 y6 y7).kids=y5)∧(∀ (y0:Int) (y1:Str) (y2:Int) (y3:List Str) (y4:List kO) (y5:List Syntax) (y6:Int) (y7:Int),(Syntax.mk y0 y1 y2 y3 y4 y5 y6 y7).from_=y6)∧(∀ (y0:Int) (y1:Str) (y2:Int) (y3:List Str) (y4:List kO) (y5:List Syntax) (y6:Int) (y7:Int),(Syntax.mk y0 y1 y2 y3 y4 y5 y6 y7).to=y7):=⟨fun _ _ _ _ _ _ _ _=>rfl,fun _ _ _ _ _ _ _ _=>rfl,fun _ _ _ _ _ _ _ _=>rfl,fun _ _ _ _ _ _ _ _=>rfl,fun _ _ _ _ _ _ _ _=>rfl,fun _ _ _ _ _ _ _ _=>rfl,fun _ _ _ _ _ _ _ _=>rfl,fun _ _ _ _ _ _ _ _=>rfl⟩
attribute [go_sem] Syntax.prj
theorem Syntax.nbs:(∀ (n:Nat) (x:Syntax),Go.Abs.nbL n x.cells=True)∧ ∀ (n:Nat) (xs:List Syntax),Go.Abs.Lu n (mp Syntax.cells xs)=True:=⟨fun n x=>eq_true (Syntax.nb n x),fun n xs=>eq_true (pV (Syntax.nb n) xs)⟩
theorem Syntax.Ss:(∀ (ρ:Nat→Nat) (x:Syntax),renL ρ x.cells=x.cells)∧ ∀ (ρ:Nat→Nat) (xs:List Syntax),CU ρ (mp Syntax.cells xs)=mp Syntax.cells xs:=⟨fun ρ x=>pg ρ _ (Syntax.nb 0 x),fun ρ xs=>sw ρ _ (pV (Syntax.nb 0) xs)⟩
theorem Syntax.vw (H:List AObj) (x:Syntax):Vv H x.cells=some (x.cells,[]):=C3 H _ (Syntax.nb 0 x)
attribute [go_sem] Syntax.vw
theorem Syntax.U6 (low:Nat) (H:List AObj) (x:Syntax):Sd low H x.cells=x.cells:=xY low H _ (Syntax.nb 0 x)
theorem Syntax.rpv (l:Nat) (ds:List AV) (x:Syntax):x.cells.map (rpV l ds)=x.cells:=AB _ (Syntax.nb 0 x)
attribute [go_sem] Syntax.rpv
theorem Syntax.tk:(∀x:Syntax,iI 8 x.cells=x.cells)∧ ∀x:Syntax,iJ 8 x.cells=[]:=⟨fun x=>by rw[Syntax.cells_eq];rfl,fun x=>by rw[Syntax.cells_eq];rfl⟩
attribute [go_sem] Syntax.tk
theorem Syntax.reads:
 (∀x:Syntax,cellsOf (.agg x.cells)=some x.cells)∧
 (∀x:Syntax,mg true 8 x.cells=some (.agg x.cells))∧
 (∀x:Syntax,mg false 1 x.cells=some (.int .i64 x.kind))∧
 (∀x:Syntax,mg false 1 (x.cells.drop 1)=some (.str (sb x.text)))∧
 (∀x:Syntax,mg false 1 (x.cells.drop 2)=some (.int .i64 x.num))∧
 (∀x:Syntax,mg false 1 (x.cells.drop 3)=some (.l5 false 1 (mp mo x.names)))∧
 (∀x:Syntax,mg false 1 (x.cells.drop 4)=some (.l5 false 2 (mp kO.cells x.levels)))∧
 (∀x:Syntax,mg false 1 (x.cells.drop 5)=some (.l5 false 8 (mp Syntax.cells x.kids)))∧
 (∀x:Syntax,mg false 1 (x.cells.drop 6)=some (.int .i64 x.from_))∧
 (∀x:Syntax,mg false 1 (x.cells.drop 7)=some (.int .i64 x.to)):=
 ⟨fun x=>by simp only[cellsOf,Syntax.scalar,if_true],
  fun x=>Cp (Syntax.length x),
  fun x=>by rw[Syntax.cells_eq];rfl,
  fun x=>by rw[Syntax.cells_eq];rfl,
  fun x=>by rw[Syntax.cells_eq];rfl,
  fun x=>by rw[Syntax.cells_eq];rfl,
  fun x=>by rw[Syntax.cells_eq];rfl,
  fun x=>by rw[Syntax.cells_eq];rfl,
  fun x=>by rw[Syntax.cells_eq];rfl,
  fun x=>by rw[Syntax.cells_eq];rfl⟩
theorem Syntax.St (x:Syntax) (o:Nat) (xs:List AV):splice x.cells o xs=splice [.int .i64 x.kind,.str (sb x.text),.int .i64 x.num,.l5 false 1 (mp mo x.names),.l5 false 2 (mp kO.cells x.levels),.l5 false 8 (mp Syntax.cells x.kids),.int .i64 x.from_,.int .i64 x.to] o xs:=by rw[Syntax.cells_eq]
theorem Syntax.Kj (x:Syntax) (o:Nat) (c:AV) (cs:List AV):splice (c::cs) o x.cells=splice (c::cs) o [.int .i64 x.kind,.str (sb x.text),.int .i64 x.num,.l5 false 1 (mp mo x.names),.l5 false 2 (mp kO.cells x.levels),.l5 false 8 (mp Syntax.cells x.kids),.int .i64 x.from_,.int .i64 x.to]:=by rw[Syntax.cells_eq]
theorem Syntax.app (x:Syntax) (l:List AV):x.cells++l=(.int .i64 x.kind:AV)::(.str (sb x.text):AV)::(.int .i64 x.num:AV)::(.l5 false 1 (mp mo x.names):AV)::(.l5 false 2 (mp kO.cells x.levels):AV)::(.l5 false 8 (mp Syntax.cells x.kids):AV)::(.int .i64 x.from_:AV)::(.int .i64 x.to:AV)::l:=by rw[Syntax.cells_eq];rfl
theorem Syntax.cns (x:Syntax) (c:AV):c::x.cells=[c,.int .i64 x.kind,.str (sb x.text),.int .i64 x.num,.l5 false 1 (mp mo x.names),.l5 false 2 (mp kO.cells x.levels),.l5 false 8 (mp Syntax.cells x.kids),.int .i64 x.from_,.int .i64 x.to]:=by rw[Syntax.cells_eq]
attribute [go_sem] Syntax.app Syntax.cns
attribute [go_sem] Syntax.nbs Syntax.Ss Syntax.U6 Syntax.reads Syntax.length Syntax.scalar
attribute [go_sem low] Syntax.St Syntax.Kj
structure Token where
 kind:Int
 text:Str
 at_:Int
def Token.cells (x:Token):List AV:=[.int .i64 x.kind,.str (sb x.text),.int .i64 x.at_]
theorem Token.mD (x:Token):x.cells=[.int .i64 x.kind,.str (sb x.text),.int .i64 x.at_]:=rfl
theorem Token.cells_eq (x:Token):x.cells=[.int .i64 x.kind,.str (sb x.text),.int .i64 x.at_]:=rfl
attribute [irreducible] Token.cells
theorem Token.length (x:Token):x.cells.length=3:=by rw[Token.cells_eq];rfl
theorem Token.scalar (x:Token):x.cells.all AV.scalar=true:=by rw[Token.cells_eq];rfl
theorem Token.nb (n:Nat) (x:Token):nbL n x.cells:=by
 rw[Token.mD]
 exact ⟨trivial,trivial,trivial,trivial⟩
def Token.of (H:List AObj):List AV→Option Token
 |[c0,c1,c2]=>(dI .i64 c0).bind fun x0=>(dS c1).bind fun x1=>(dI .i64 c2).bind fun x2=>some (.mk x0 x1 x2)
 |_=>none
theorem Token.wm {H:List AObj} {c0 c1 c2:AV}:Token.of H [c0,c1,c2]=(dI .i64 c0).bind fun x0=>(dS c1).bind fun x1=>(dI .i64 c2).bind fun x2=>some (.mk x0 x1 x2):=rfl
theorem Token.nY (H:List AObj) (x:Token):Token.of H [.int .i64 x.kind,.str (sb x.text),.int .i64 x.at_]=some x:=by
 simp only[Token.wm,Mp,Hu,Sk,x8,Ht,beq_self_eq_true,iH,cond_true,dL]
 try (cases x;rfl)
theorem Token.nH (H:List AObj) (x:Token):Token.of H x.cells=some x:=by rw[Token.cells_eq];exact Token.nY H x
theorem Token.Bo {H:List AObj} {n:Nat} {cs:List AV} {x:Token} (h:Token.of H cs=some x):oN H n cs x.cells:=by
 unfold Token.of at h
 split at h
 ·simp only[iE,iF] at h
  obtain ⟨x0,h0,x1,h1,x2,h2,rfl⟩:=h
  rw[Token.mD]
  exact (oN.cons (EU h0) (oN.cons (Wg h1) (oN.cons (EU h2) oN.nil)))
 ·cases h
def Token.cel:R0 Token:=⟨Token.cells,Token.of,fun _ _ _ _ h=>Token.Bo h,Token.nb⟩
def Token.row:Row Token:=⟨Token.cells,Token.of [],3,fun _ _ h=>(Token.Bo (n:=0) h).toSub,Token.nb⟩
theorem Token.n7 (xs:List Token):mapO (Token.of []) (mp Token.cells xs)=some xs:=Cm (Token.nH []) xs
theorem Token.oG (xs:List Token) (i:Nat) (r:List AV):mapO (Token.of []) ((mp Token.cells xs).set i r)=bif decide (i<xs.length) then (Token.of [] r).bind fun y=>some (xs.set i y) else some xs:=Go.Abs.oG (Token.nH []) xs i r
attribute [go_sem low] Token.oG
theorem Token.Ki:Token.row.enc=Token.cells∧Token.row.dec=Token.of []∧Token.row.sz=3∧Token.cel.enc=Token.cells∧Token.cel.dec=Token.of:=⟨rfl,rfl,rfl,rfl,rfl⟩
theorem Token.eta (x:Token):Token.mk x.kind x.text x.at_=x:=by cases x;rfl
attribute [go_sem] Token.wm Token.nH Token.n7 Token.Ki Token.eta
theorem Token.prj:(∀ (y0:Int) (y1:Str) (y2:Int),(Token.mk y0 y1 y2).kind=y0)∧(∀ (y0:Int) (y1:Str) (y2:Int),(Token.mk y0 y1 y2).text=y1)∧(∀ (y0:Int) (y1:Str) (y2:Int),(Token.mk y0 y1 y2).at_=y2):=⟨fun _ _ _=>rfl,fun _ _ _=>rfl,fun _ _ _=>rfl⟩
attribute [go_sem] Token.prj
theorem Token.nbs:(∀ (n:Nat) (x:Token),Go.Abs.nbL n x.cells=True)∧ ∀ (n:Nat) (xs:List Token),Go.Abs.Lu n (mp Token.cells xs)=True:=⟨fun n x=>eq_true (Token.nb n x),fun n xs=>eq_true (pV (Token.nb n) xs)⟩
theorem Token.Ss:(∀ (ρ:Nat→Nat) (x:Token),renL ρ x.cells=x.cells)∧ ∀ (ρ:Nat→Nat) (xs:List Token),CU ρ (mp Token.cells xs)=mp Token.cells xs:=⟨fun ρ x=>pg ρ _ (Token.nb 0 x),fun ρ xs=>sw ρ _ (pV (Token.nb 0) xs)⟩
theorem Token.vw (H:List AObj) (x:Token):Vv H x.cells=some (x.cells,[]):=C3 H _ (Token.nb 0 x)
attribute [go_sem] Token.vw
theorem Token.U6 (low:Nat) (H:List AObj) (x:Token):Sd low H x.cells=x.cells:=xY low H _ (Token.nb 0 x)
theorem Token.rpv (l:Nat) (ds:List AV) (x:Token):x.cells.map (rpV l ds)=x.cells:=AB _ (Token.nb 0 x)
attribute [go_sem] Token.rpv
theorem Token.tk:(∀x:Token,iI 3 x.cells=x.cells)∧ ∀x:Token,iJ 3 x.cells=[]:=⟨fun x=>by rw[Token.cells_eq];rfl,fun x=>by rw[Token.cells_eq];rfl⟩
attribute [go_sem] Token.tk
theorem Token.reads:
 (∀x:Token,cellsOf (.agg x.cells)=some x.cells)∧
 (∀x:Token,mg true 3 x.cells=some (.agg x.cells))∧
 (∀x:Token,mg false 1 x.cells=some (.int .i64 x.kind))∧
 (∀x:Token,mg false 1 (x.cells.drop 1)=some (.str (sb x.text)))∧
 (∀x:Token,mg false 1 (x.cells.drop 2)=some (.int .i64 x.at_)):=
 ⟨fun x=>by simp only[cellsOf,Token.scalar,if_true],
  fun x=>Cp (Token.length x),
  fun x=>by rw[Token.cells_eq];rfl,
  fun x=>by rw[Token.cells_eq];rfl,
  fun x=>by rw[Token.cells_eq];rfl⟩
theorem Token.St (x:Token) (o:Nat) (xs:List AV):splice x.cells o xs=splice [.int .i64 x.kind,.str (sb x.text),.int .i64 x.at_] o xs:=by rw[Token.cells_eq]
theorem Token.Kj (x:Token) (o:Nat) (c:AV) (cs:List AV):splice (c::cs) o x.cells=splice (c::cs) o [.int .i64 x.kind,.str (sb x.text),.int .i64 x.at_]:=by rw[Token.cells_eq]
theorem Token.app (x:Token) (l:List AV):x.cells++l=(.int .i64 x.kind:AV)::(.str (sb x.text):AV)::(.int .i64 x.at_:AV)::l:=by rw[Token.cells_eq];rfl
theorem Token.cns (x:Token) (c:AV):c::x.cells=[c,.int .i64 x.kind,.str (sb x.text),.int .i64 x.at_]:=by rw[Token.cells_eq]
attribute [go_sem] Token.app Token.cns
attribute [go_sem] Token.nbs Token.Ss Token.U6 Token.reads Token.length Token.scalar
attribute [go_sem low] Token.St Token.Kj
structure Notation where
 parts:List Str
 level:Int
 assoc:Int
 target:Str
def Notation.cells (x:Notation):List AV:=[.l5 false 1 (mp mo x.parts),.int .i64 x.level,.int .i64 x.assoc,.str (sb x.target)]
theorem Notation.mD (x:Notation):x.cells=[.l5 false 1 (mp mo x.parts),.int .i64 x.level,.int .i64 x.assoc,.str (sb x.target)]:=rfl
theorem Notation.cells_eq (x:Notation):x.cells=[.l5 false 1 (mp mo x.parts),.int .i64 x.level,.int .i64 x.assoc,.str (sb x.target)]:=rfl
attribute [irreducible] Notation.cells
theorem Notation.length (x:Notation):x.cells.length=4:=by rw[Notation.cells_eq];rfl
theorem Notation.scalar (x:Notation):x.cells.all AV.scalar=true:=by rw[Notation.cells_eq];rfl
theorem Notation.nb (n:Nat) (x:Notation):nbL n x.cells:=by
 rw[Notation.mD]
 exact ⟨pV (Sq n) _,trivial,trivial,trivial,trivial⟩
def Notation.of (H:List AObj):List AV→Option Notation
 |[c0,c1,c2,c3]=>(dL nq H c0).bind fun x0=>(dI .i64 c1).bind fun x1=>(dI .i64 c2).bind fun x2=>(dS c3).bind fun x3=>some (.mk x0 x1 x2 x3)
 |_=>none
theorem Notation.wm {H:List AObj} {c0 c1 c2 c3:AV}:Notation.of H [c0,c1,c2,c3]=(dL nq H c0).bind fun x0=>(dI .i64 c1).bind fun x1=>(dI .i64 c2).bind fun x2=>(dS c3).bind fun x3=>some (.mk x0 x1 x2 x3):=rfl
theorem Notation.nY (H:List AObj) (x:Notation):Notation.of H [.l5 false 1 (mp mo x.parts),.int .i64 x.level,.int .i64 x.assoc,.str (sb x.target)]=some x:=by
 simp only[Notation.wm,Mp,Hu,Sk,x8,Ht,beq_self_eq_true,iH,cond_true,dL,GI,W5]
 try (cases x;rfl)
theorem Notation.nH (H:List AObj) (x:Notation):Notation.of H x.cells=some x:=by rw[Notation.cells_eq];exact Notation.nY H x
theorem Notation.Bo {H:List AObj} {n:Nat} {cs:List AV} {x:Notation} (h:Notation.of H cs=some x):oN H n cs x.cells:=by
 unfold Notation.of at h
 split at h
 ·simp only[iE,iF] at h
  obtain ⟨x0,h0,x1,h1,x2,h2,x3,h3,rfl⟩:=h
  rw[Notation.mD]
  exact (oN.cons (Pc h0) (oN.cons (EU h1) (oN.cons (EU h2) (oN.cons (Wg h3) oN.nil))))
 ·cases h
def Notation.cel:R0 Notation:=⟨Notation.cells,Notation.of,fun _ _ _ _ h=>Notation.Bo h,Notation.nb⟩
def Notation.row:Row Notation:=⟨Notation.cells,Notation.of [],4,fun _ _ h=>(Notation.Bo (n:=0) h).toSub,Notation.nb⟩
theorem Notation.n7 (xs:List Notation):mapO (Notation.of []) (mp Notation.cells xs)=some xs:=Cm (Notation.nH []) xs
theorem Notation.oG (xs:List Notation) (i:Nat) (r:List AV):mapO (Notation.of []) ((mp Notation.cells xs).set i r)=bif decide (i<xs.length) then (Notation.of [] r).bind fun y=>some (xs.set i y) else some xs:=Go.Abs.oG (Notation.nH []) xs i r
attribute [go_sem low] Notation.oG
theorem Notation.Ki:Notation.row.enc=Notation.cells∧Notation.row.dec=Notation.of []∧Notation.row.sz=4∧Notation.cel.enc=Notation.cells∧Notation.cel.dec=Notation.of:=⟨rfl,rfl,rfl,rfl,rfl⟩
theorem Notation.eta (x:Notation):Notation.mk x.parts x.level x.assoc x.target=x:=by cases x;rfl
attribute [go_sem] Notation.wm Notation.nH Notation.n7 Notation.Ki Notation.eta
theorem Notation.prj:(∀ (y0:List Str) (y1:Int) (y2:Int) (y3:Str),(Notation.mk y0 y1 y2 y3).parts=y0)∧(∀ (y0:List Str) (y1:Int) (y2:Int) (y3:Str),(Notation.mk y0 y1 y2 y3).level=y1)∧(∀ (y0:List Str) (y1:Int) (y2:Int) (y3:Str),(Notation.mk y0 y1 y2 y3).assoc=y2)∧(∀ (y0:List Str) (y1:Int) (y2:Int) (y3:Str),(Notation.mk y0 y1 y2 y3).target=y3):=⟨fun _ _ _ _=>rfl,fun _ _ _ _=>rfl,fun _ _ _ _=>rfl,fun _ _ _ _=>rfl⟩
attribute [go_sem] Notation.prj
theorem Notation.nbs:(∀ (n:Nat) (x:Notation),Go.Abs.nbL n x.cells=True)∧ ∀ (n:Nat) (xs:List Notation),Go.Abs.Lu n (mp Notation.cells xs)=True:=⟨fun n x=>eq_true (Notation.nb n x),fun n xs=>eq_true (pV (Notation.nb n) xs)⟩
theorem Notation.Ss:(∀ (ρ:Nat→Nat) (x:Notation),renL ρ x.cells=x.cells)∧ ∀ (ρ:Nat→Nat) (xs:List Notation),CU ρ (mp Notation.cells xs)=mp Notation.cells xs:=⟨fun ρ x=>pg ρ _ (Notation.nb 0 x),fun ρ xs=>sw ρ _ (pV (Notation.nb 0) xs)⟩
theorem Notation.vw (H:List AObj) (x:Notation):Vv H x.cells=some (x.cells,[]):=C3 H _ (Notation.nb 0 x)
attribute [go_sem] Notation.vw
theorem Notation.U6 (low:Nat) (H:List AObj) (x:Notation):Sd low H x.cells=x.cells:=xY low H _ (Notation.nb 0 x)
theorem Notation.rpv (l:Nat) (ds:List AV) (x:Notation):x.cells.map (rpV l ds)=x.cells:=AB _ (Notation.nb 0 x)
attribute [go_sem] Notation.rpv
theorem Notation.tk:(∀x:Notation,iI 4 x.cells=x.cells)∧ ∀x:Notation,iJ 4 x.cells=[]:=⟨fun x=>by rw[Notation.cells_eq];rfl,fun x=>by rw[Notation.cells_eq];rfl⟩
attribute [go_sem] Notation.tk
theorem Notation.reads:
 (∀x:Notation,cellsOf (.agg x.cells)=some x.cells)∧
 (∀x:Notation,mg true 4 x.cells=some (.agg x.cells))∧
 (∀x:Notation,mg false 1 x.cells=some (.l5 false 1 (mp mo x.parts)))∧
 (∀x:Notation,mg false 1 (x.cells.drop 1)=some (.int .i64 x.level))∧
 (∀x:Notation,mg false 1 (x.cells.drop 2)=some (.int .i64 x.assoc))∧
 (∀x:Notation,mg false 1 (x.cells.drop 3)=some (.str (sb x.target))):=
 ⟨fun x=>by simp only[cellsOf,Notation.scalar,if_true],
  fun x=>Cp (Notation.length x),
  fun x=>by rw[Notation.cells_eq];rfl,
  fun x=>by rw[Notation.cells_eq];rfl,
  fun x=>by rw[Notation.cells_eq];rfl,
  fun x=>by rw[Notation.cells_eq];rfl⟩
theorem Notation.St (x:Notation) (o:Nat) (xs:List AV):splice x.cells o xs=splice [.l5 false 1 (mp mo x.parts),.int .i64 x.level,.int .i64 x.assoc,.str (sb x.target)] o xs:=by rw[Notation.cells_eq]
theorem Notation.Kj (x:Notation) (o:Nat) (c:AV) (cs:List AV):splice (c::cs) o x.cells=splice (c::cs) o [.l5 false 1 (mp mo x.parts),.int .i64 x.level,.int .i64 x.assoc,.str (sb x.target)]:=by rw[Notation.cells_eq]
theorem Notation.app (x:Notation) (l:List AV):x.cells++l=(.l5 false 1 (mp mo x.parts):AV)::(.int .i64 x.level:AV)::(.int .i64 x.assoc:AV)::(.str (sb x.target):AV)::l:=by rw[Notation.cells_eq];rfl
theorem Notation.cns (x:Notation) (c:AV):c::x.cells=[c,.l5 false 1 (mp mo x.parts),.int .i64 x.level,.int .i64 x.assoc,.str (sb x.target)]:=by rw[Notation.cells_eq]
attribute [go_sem] Notation.app Notation.cns
attribute [go_sem] Notation.nbs Notation.Ss Notation.U6 Notation.reads Notation.length Notation.scalar
attribute [go_sem low] Notation.St Notation.Kj
structure kP where
 e:Int
 at_:Int
def kP.cells (x:kP):List AV:=[.int .i64 x.e,.int .i64 x.at_]
theorem kP.mD (x:kP):x.cells=[.int .i64 x.e,.int .i64 x.at_]:=rfl
theorem kP.cells_eq (x:kP):x.cells=[.int .i64 x.e,.int .i64 x.at_]:=rfl
attribute [irreducible] kP.cells
theorem kP.length (x:kP):x.cells.length=2:=by rw[kP.cells_eq];rfl
theorem kP.scalar (x:kP):x.cells.all AV.scalar=true:=by rw[kP.cells_eq];rfl
theorem kP.nb (n:Nat) (x:kP):nbL n x.cells:=by
 rw[kP.mD]
 exact ⟨trivial,trivial,trivial⟩
def kP.of (H:List AObj):List AV→Option kP
 |[c0,c1]=>(dI .i64 c0).bind fun x0=>(dI .i64 c1).bind fun x1=>some (.mk x0 x1)
 |_=>none
theorem kP.wm {H:List AObj} {c0 c1:AV}:kP.of H [c0,c1]=(dI .i64 c0).bind fun x0=>(dI .i64 c1).bind fun x1=>some (.mk x0 x1):=rfl
theorem kP.nY (H:List AObj) (x:kP):kP.of H [.int .i64 x.e,.int .i64 x.at_]=some x:=by
 simp only[kP.wm,Mp,Hu,Sk,x8,Ht,beq_self_eq_true,iH,cond_true,dL]
 try (cases x;rfl)
theorem kP.nH (H:List AObj) (x:kP):kP.of H x.cells=some x:=by rw[kP.cells_eq];exact kP.nY H x
theorem kP.Bo {H:List AObj} {n:Nat} {cs:List AV} {x:kP} (h:kP.of H cs=some x):oN H n cs x.cells:=by
 unfold kP.of at h
 split at h
 ·simp only[iE,iF] at h
  obtain ⟨x0,h0,x1,h1,rfl⟩:=h
  rw[kP.mD]
  exact (oN.cons (EU h0) (oN.cons (EU h1) oN.nil))
 ·cases h
def kP.cel:R0 kP:=⟨kP.cells,kP.of,fun _ _ _ _ h=>kP.Bo h,kP.nb⟩
def kP.row:Row kP:=⟨kP.cells,kP.of [],2,fun _ _ h=>(kP.Bo (n:=0) h).toSub,kP.nb⟩
theorem kP.n7 (xs:List kP):mapO (kP.of []) (mp kP.cells xs)=some xs:=Cm (kP.nH []) xs
theorem kP.oG (xs:List kP) (i:Nat) (r:List AV):mapO (kP.of []) ((mp kP.cells xs).set i r)=bif decide (i<xs.length) then (kP.of [] r).bind fun y=>some (xs.set i y) else some xs:=Go.Abs.oG (kP.nH []) xs i r
attribute [go_sem low] kP.oG
theorem kP.Ki:kP.row.enc=kP.cells∧kP.row.dec=kP.of []∧kP.row.sz=2∧kP.cel.enc=kP.cells∧kP.cel.dec=kP.of:=⟨rfl,rfl,rfl,rfl,rfl⟩
theorem kP.eta (x:kP):kP.mk x.e x.at_=x:=by cases x;rfl
attribute [go_sem] kP.wm kP.nH kP.n7 kP.Ki kP.eta
theorem kP.prj:(∀ (y0:Int) (y1:Int),(kP.mk y0 y1).e=y0)∧(∀ (y0:Int) (y1:Int),(kP.mk y0 y1).at_=y1):=⟨fun _ _=>rfl,fun _ _=>rfl⟩
attribute [go_sem] kP.prj
theorem kP.nbs:(∀ (n:Nat) (x:kP),Go.Abs.nbL n x.cells=True)∧ ∀ (n:Nat) (xs:List kP),Go.Abs.Lu n (mp kP.cells xs)=True:=⟨fun n x=>eq_true (kP.nb n x),fun n xs=>eq_true (pV (kP.nb n) xs)⟩
theorem kP.Ss:(∀ (ρ:Nat→Nat) (x:kP),renL ρ x.cells=x.cells)∧ ∀ (ρ:Nat→Nat) (xs:List kP),CU ρ (mp kP.cells xs)=mp kP.cells xs:=⟨fun ρ x=>pg ρ _ (kP.nb 0 x),fun ρ xs=>sw ρ _ (pV (kP.nb 0) xs)⟩
theorem kP.vw (H:List AObj) (x:kP):Vv H x.cells=some (x.cells,[]):=C3 H _ (kP.nb 0 x)
attribute [go_sem] kP.vw
theorem kP.U6 (low:Nat) (H:List AObj) (x:kP):Sd low H x.cells=x.cells:=xY low H _ (kP.nb 0 x)
theorem kP.rpv (l:Nat) (ds:List AV) (x:kP):x.cells.map (rpV l ds)=x.cells:=AB _ (kP.nb 0 x)
attribute [go_sem] kP.rpv
theorem kP.tk:(∀x:kP,iI 2 x.cells=x.cells)∧ ∀x:kP,iJ 2 x.cells=[]:=⟨fun x=>by rw[kP.cells_eq];rfl,fun x=>by rw[kP.cells_eq];rfl⟩
attribute [go_sem] kP.tk
theorem kP.reads:
 (∀x:kP,cellsOf (.agg x.cells)=some x.cells)∧
 (∀x:kP,mg true 2 x.cells=some (.agg x.cells))∧
 (∀x:kP,mg false 1 x.cells=some (.int .i64 x.e))∧
 (∀x:kP,mg false 1 (x.cells.drop 1)=some (.int .i64 x.at_)):=
 ⟨fun x=>by simp only[cellsOf,kP.scalar,if_true],
  fun x=>Cp (kP.length x),
  fun x=>by rw[kP.cells_eq];rfl,
  fun x=>by rw[kP.cells_eq];rfl⟩
theorem kP.St (x:kP) (o:Nat) (xs:List AV):splice x.cells o xs=splice [.int .i64 x.e,.int .i64 x.at_] o xs:=by rw[kP.cells_eq]
theorem kP.Kj (x:kP) (o:Nat) (c:AV) (cs:List AV):splice (c::cs) o x.cells=splice (c::cs) o [.int .i64 x.e,.int .i64 x.at_]:=by rw[kP.cells_eq]
theorem kP.app (x:kP) (l:List AV):x.cells++l=(.int .i64 x.e:AV)::(.int .i64 x.at_:AV)::l:=by rw[kP.cells_eq];rfl
theorem kP.cns (x:kP) (c:AV):c::x.cells=[c,.int .i64 x.e,.int .i64 x.at_]:=by rw[kP.cells_eq]
attribute [go_sem] kP.app kP.cns
attribute [go_sem] kP.nbs kP.Ss kP.U6 kP.reads kP.length kP.scalar
attribute [go_sem low] kP.St kP.Kj
structure kU where
 tokens:List Token
 next:Int
 base:Int
def kU.cells (x:kU):List AV:=[.l5 false 3 (mp Token.cells x.tokens),.int .i64 x.next,.int .i64 x.base]
theorem kU.mD (x:kU):x.cells=[.l5 false 3 (mp Token.cells x.tokens),.int .i64 x.next,.int .i64 x.base]:=rfl
theorem kU.cells_eq (x:kU):x.cells=[.l5 false 3 (mp Token.cells x.tokens),.int .i64 x.next,.int .i64 x.base]:=rfl
attribute [irreducible] kU.cells
theorem kU.length (x:kU):x.cells.length=3:=by rw[kU.cells_eq];rfl
theorem kU.scalar (x:kU):x.cells.all AV.scalar=true:=by rw[kU.cells_eq];rfl
theorem kU.nb (n:Nat) (x:kU):nbL n x.cells:=by
 rw[kU.mD]
 exact ⟨pV (Token.nb n) _,trivial,trivial,trivial⟩
def kU.of (H:List AObj):List AV→Option kU
 |[c0,c1,c2]=>(dL Token.row H c0).bind fun x0=>(dI .i64 c1).bind fun x1=>(dI .i64 c2).bind fun x2=>some (.mk x0 x1 x2)
 |_=>none
theorem kU.wm {H:List AObj} {c0 c1 c2:AV}:kU.of H [c0,c1,c2]=(dL Token.row H c0).bind fun x0=>(dI .i64 c1).bind fun x1=>(dI .i64 c2).bind fun x2=>some (.mk x0 x1 x2):=rfl
theorem kU.nY (H:List AObj) (x:kU):kU.of H [.l5 false 3 (mp Token.cells x.tokens),.int .i64 x.next,.int .i64 x.base]=some x:=by
 simp only[kU.wm,Mp,Hu,Sk,x8,Ht,beq_self_eq_true,iH,cond_true,dL,Token.n7,Token.row]
 try (cases x;rfl)
theorem kU.nH (H:List AObj) (x:kU):kU.of H x.cells=some x:=by rw[kU.cells_eq];exact kU.nY H x
theorem kU.Bo {H:List AObj} {n:Nat} {cs:List AV} {x:kU} (h:kU.of H cs=some x):oN H n cs x.cells:=by
 unfold kU.of at h
 split at h
 ·simp only[iE,iF] at h
  obtain ⟨x0,h0,x1,h1,x2,h2,rfl⟩:=h
  rw[kU.mD]
  exact (oN.cons (Pc h0) (oN.cons (EU h1) (oN.cons (EU h2) oN.nil)))
 ·cases h
def kU.cel:R0 kU:=⟨kU.cells,kU.of,fun _ _ _ _ h=>kU.Bo h,kU.nb⟩
def kU.row:Row kU:=⟨kU.cells,kU.of [],3,fun _ _ h=>(kU.Bo (n:=0) h).toSub,kU.nb⟩
theorem kU.n7 (xs:List kU):mapO (kU.of []) (mp kU.cells xs)=some xs:=Cm (kU.nH []) xs
theorem kU.oG (xs:List kU) (i:Nat) (r:List AV):mapO (kU.of []) ((mp kU.cells xs).set i r)=bif decide (i<xs.length) then (kU.of [] r).bind fun y=>some (xs.set i y) else some xs:=Go.Abs.oG (kU.nH []) xs i r
attribute [go_sem low] kU.oG
theorem kU.Ki:kU.row.enc=kU.cells∧kU.row.dec=kU.of []∧kU.row.sz=3∧kU.cel.enc=kU.cells∧kU.cel.dec=kU.of:=⟨rfl,rfl,rfl,rfl,rfl⟩
theorem kU.eta (x:kU):kU.mk x.tokens x.next x.base=x:=by cases x;rfl
attribute [go_sem] kU.wm kU.nH kU.n7 kU.Ki kU.eta
theorem kU.prj:(∀ (y0:List Token) (y1:Int) (y2:Int),(kU.mk y0 y1 y2).tokens=y0)∧(∀ (y0:List Token) (y1:Int) (y2:Int),(kU.mk y0 y1 y2).next=y1)∧(∀ (y0:List Token) (y1:Int) (y2:Int),(kU.mk y0 y1 y2).base=y2):=⟨fun _ _ _=>rfl,fun _ _ _=>rfl,fun _ _ _=>rfl⟩
attribute [go_sem] kU.prj
theorem kU.nbs:(∀ (n:Nat) (x:kU),Go.Abs.nbL n x.cells=True)∧ ∀ (n:Nat) (xs:List kU),Go.Abs.Lu n (mp kU.cells xs)=True:=⟨fun n x=>eq_true (kU.nb n x),fun n xs=>eq_true (pV (kU.nb n) xs)⟩
theorem kU.Ss:(∀ (ρ:Nat→Nat) (x:kU),renL ρ x.cells=x.cells)∧ ∀ (ρ:Nat→Nat) (xs:List kU),CU ρ (mp kU.cells xs)=mp kU.cells xs:=⟨fun ρ x=>pg ρ _ (kU.nb 0 x),fun ρ xs=>sw ρ _ (pV (kU.nb 0) xs)⟩
theorem kU.vw (H:List AObj) (x:kU):Vv H x.cells=some (x.cells,[]):=C3 H _ (kU.nb 0 x)
attribute [go_sem] kU.vw
theorem kU.U6 (low:Nat) (H:List AObj) (x:kU):Sd low H x.cells=x.cells:=xY low H _ (kU.nb 0 x)
theorem kU.rpv (l:Nat) (ds:List AV) (x:kU):x.cells.map (rpV l ds)=x.cells:=AB _ (kU.nb 0 x)
attribute [go_sem] kU.rpv
theorem kU.tk:(∀x:kU,iI 3 x.cells=x.cells)∧ ∀x:kU,iJ 3 x.cells=[]:=⟨fun x=>by rw[kU.cells_eq];rfl,fun x=>by rw[kU.cells_eq];rfl⟩
attribute [go_sem] kU.tk
theorem kU.reads:
 (∀x:kU,cellsOf (.agg x.cells)=some x.cells)∧
 (∀x:kU,mg true 3 x.cells=some (.agg x.cells))∧
 (∀x:kU,mg false 1 x.cells=some (.l5 false 3 (mp Token.cells x.tokens)))∧
 (∀x:kU,mg false 1 (x.cells.drop 1)=some (.int .i64 x.next))∧
 (∀x:kU,mg false 1 (x.cells.drop 2)=some (.int .i64 x.base)):=
 ⟨fun x=>by simp only[cellsOf,kU.scalar,if_true],
  fun x=>Cp (kU.length x),
  fun x=>by rw[kU.cells_eq];rfl,
  fun x=>by rw[kU.cells_eq];rfl,
  fun x=>by rw[kU.cells_eq];rfl⟩
theorem kU.St (x:kU) (o:Nat) (xs:List AV):splice x.cells o xs=splice [.l5 false 3 (mp Token.cells x.tokens),.int .i64 x.next,.int .i64 x.base] o xs:=by rw[kU.cells_eq]
theorem kU.Kj (x:kU) (o:Nat) (c:AV) (cs:List AV):splice (c::cs) o x.cells=splice (c::cs) o [.l5 false 3 (mp Token.cells x.tokens),.int .i64 x.next,.int .i64 x.base]:=by rw[kU.cells_eq]
theorem kU.app (x:kU) (l:List AV):x.cells++l=(.l5 false 3 (mp Token.cells x.tokens):AV)::(.int .i64 x.next:AV)::(.int .i64 x.base:AV)::l:=by rw[kU.cells_eq];rfl
theorem kU.cns (x:kU) (c:AV):c::x.cells=[c,.l5 false 3 (mp Token.cells x.tokens),.int .i64 x.next,.int .i64 x.base]:=by rw[kU.cells_eq]
attribute [go_sem] kU.app kU.cns
attribute [go_sem] kU.nbs kU.Ss kU.U6 kU.reads kU.length kU.scalar
attribute [go_sem low] kU.St kU.Kj
structure kN where
 reader:kU
 table:List Notation
 symbols:List Str
 depth:Int
def kN.cells (x:kN):List AV:=x.reader.cells++[.l5 false 4 (mp Notation.cells x.table),.l5 false 1 (mp mo x.symbols),.int .i64 x.depth]
theorem kN.mD (x:kN):x.cells=x.reader.cells++[.l5 false 4 (mp Notation.cells x.table),.l5 false 1 (mp mo x.symbols),.int .i64 x.depth]:=rfl
theorem kN.cells_eq (x:kN):x.cells=[.l5 false 3 (mp Token.cells x.reader.tokens),.int .i64 x.reader.next,.int .i64 x.reader.base,.l5 false 4 (mp Notation.cells x.table),.l5 false 1 (mp mo x.symbols),.int .i64 x.depth]:=by
 simp only[kN.cells,kU.cells_eq,iK,iL,iM]
attribute [irreducible] kN.cells
theorem kN.length (x:kN):x.cells.length=6:=by rw[kN.cells_eq];rfl
theorem kN.scalar (x:kN):x.cells.all AV.scalar=true:=by rw[kN.cells_eq];rfl
theorem kN.nb (n:Nat) (x:kN):nbL n x.cells:=by
 rw[kN.mD]
 exact (JE (kU.nb n x.reader) ⟨pV (Notation.nb n) _,pV (Sq n) _,trivial,trivial⟩)
def kN.of (H:List AObj):List AV→Option kN
 |[c0,c1,c2,c3,c4,c5]=>(kU.of H [c0,c1,c2]).bind fun x0=>(dL Notation.row H c3).bind fun x1=>(dL nq H c4).bind fun x2=>(dI .i64 c5).bind fun x3=>some (.mk x0 x1 x2 x3)
 |_=>none
theorem kN.wm {H:List AObj} {c0 c1 c2 c3 c4 c5:AV}:kN.of H [c0,c1,c2,c3,c4,c5]=(kU.of H [c0,c1,c2]).bind fun x0=>(dL Notation.row H c3).bind fun x1=>(dL nq H c4).bind fun x2=>(dI .i64 c5).bind fun x3=>some (.mk x0 x1 x2 x3):=rfl
theorem kN.nY (H:List AObj) (x:kN):kN.of H [.l5 false 3 (mp Token.cells x.reader.tokens),.int .i64 x.reader.next,.int .i64 x.reader.base,.l5 false 4 (mp Notation.cells x.table),.l5 false 1 (mp mo x.symbols),.int .i64 x.depth]=some x:=by
 simp only[kN.wm,Mp,Hu,Sk,x8,Ht,beq_self_eq_true,iH,cond_true,dL,Notation.n7,Notation.row,GI,W5,kU.nY]
 try (cases x;rfl)
theorem kN.nH (H:List AObj) (x:kN):kN.of H x.cells=some x:=by rw[kN.cells_eq];exact kN.nY H x
theorem kN.Bo {H:List AObj} {n:Nat} {cs:List AV} {x:kN} (h:kN.of H cs=some x):oN H n cs x.cells:=by
 unfold kN.of at h
 split at h
 ·simp only[iE,iF] at h
  obtain ⟨x0,h0,x1,h1,x2,h2,x3,h3,rfl⟩:=h
  rw[kN.mD]
  exact (oN.append (kU.Bo h0) (oN.cons (Pc h1) (oN.cons (Pc h2) (oN.cons (EU h3) oN.nil))))
 ·cases h
def kN.cel:R0 kN:=⟨kN.cells,kN.of,fun _ _ _ _ h=>kN.Bo h,kN.nb⟩
def kN.row:Row kN:=⟨kN.cells,kN.of [],6,fun _ _ h=>(kN.Bo (n:=0) h).toSub,kN.nb⟩
theorem kN.n7 (xs:List kN):mapO (kN.of []) (mp kN.cells xs)=some xs:=Cm (kN.nH []) xs
theorem kN.oG (xs:List kN) (i:Nat) (r:List AV):mapO (kN.of []) ((mp kN.cells xs).set i r)=bif decide (i<xs.length) then (kN.of [] r).bind fun y=>some (xs.set i y) else some xs:=Go.Abs.oG (kN.nH []) xs i r
attribute [go_sem low] kN.oG
theorem kN.Ki:kN.row.enc=kN.cells∧kN.row.dec=kN.of []∧kN.row.sz=6∧kN.cel.enc=kN.cells∧kN.cel.dec=kN.of:=⟨rfl,rfl,rfl,rfl,rfl⟩
theorem kN.eta (x:kN):kN.mk x.reader x.table x.symbols x.depth=x:=by cases x;rfl
attribute [go_sem] kN.wm kN.nH kN.n7 kN.Ki kN.eta
theorem kN.prj:(∀ (y0:kU) (y1:List Notation) (y2:List Str) (y3:Int),(kN.mk y0 y1 y2 y3).reader=y0)∧(∀ (y0:kU) (y1:List Notation) (y2:List Str) (y3:Int),(kN.mk y0 y1 y2 y3).table=y1)∧(∀ (y0:kU) (y1:List Notation) (y2:List Str) (y3:Int),(kN.mk y0 y1 y2 y3).symbols=y2)∧(∀ (y0:kU) (y1:List Notation) (y2:List Str) (y3:Int),(kN.mk y0 y1 y2 y3).depth=y3):=⟨fun _ _ _ _=>rfl,fun _ _ _ _=>rfl,fun _ _ _ _=>rfl,fun _ _ _ _=>rfl⟩
attribute [go_sem] kN.prj
theorem kN.nbs:(∀ (n:Nat) (x:kN),Go.Abs.nbL n x.cells=True)∧ ∀ (n:Nat) (xs:List kN),Go.Abs.Lu n (mp kN.cells xs)=True:=⟨fun n x=>eq_true (kN.nb n x),fun n xs=>eq_true (pV (kN.nb n) xs)⟩
theorem kN.Ss:(∀ (ρ:Nat→Nat) (x:kN),renL ρ x.cells=x.cells)∧ ∀ (ρ:Nat→Nat) (xs:List kN),CU ρ (mp kN.cells xs)=mp kN.cells xs:=⟨fun ρ x=>pg ρ _ (kN.nb 0 x),fun ρ xs=>sw ρ _ (pV (kN.nb 0) xs)⟩
theorem kN.vw (H:List AObj) (x:kN):Vv H x.cells=some (x.cells,[]):=C3 H _ (kN.nb 0 x)
attribute [go_sem] kN.vw
theorem kN.U6 (low:Nat) (H:List AObj) (x:kN):Sd low H x.cells=x.cells:=xY low H _ (kN.nb 0 x)
theorem kN.rpv (l:Nat) (ds:List AV) (x:kN):x.cells.map (rpV l ds)=x.cells:=AB _ (kN.nb 0 x)
attribute [go_sem] kN.rpv
theorem kN.tk:(∀x:kN,iI 6 x.cells=x.cells)∧ ∀x:kN,iJ 6 x.cells=[]:=⟨fun x=>by rw[kN.cells_eq];rfl,fun x=>by rw[kN.cells_eq];rfl⟩
attribute [go_sem] kN.tk
theorem kN.reads:
 (∀x:kN,cellsOf (.agg x.cells)=some x.cells)∧
 (∀x:kN,mg true 6 x.cells=some (.agg x.cells))∧
 (∀x:kN,mg false 1 x.cells=some (.l5 false 3 (mp Token.cells x.reader.tokens)))∧
 (∀x:kN,mg false 1 (x.cells.drop 1)=some (.int .i64 x.reader.next))∧
 (∀x:kN,mg false 1 (x.cells.drop 2)=some (.int .i64 x.reader.base))∧
 (∀x:kN,mg false 1 (x.cells.drop 3)=some (.l5 false 4 (mp Notation.cells x.table)))∧
 (∀x:kN,mg false 1 (x.cells.drop 4)=some (.l5 false 1 (mp mo x.symbols)))∧
 (∀x:kN,mg false 1 (x.cells.drop 5)=some (.int .i64 x.depth))∧
 (∀x:kN,mg true 3 x.cells=some (.agg x.reader.cells)):=
 ⟨fun x=>by simp only[cellsOf,kN.scalar,if_true],
  fun x=>Cp (kN.length x),
  fun x=>by rw[kN.cells_eq];rfl,
  fun x=>by rw[kN.cells_eq];rfl,
  fun x=>by rw[kN.cells_eq];rfl,
  fun x=>by rw[kN.cells_eq];rfl,
  fun x=>by rw[kN.cells_eq];rfl,
  fun x=>by rw[kN.cells_eq];rfl,
  fun x=>by rw[kN.cells_eq];simp only[kU.cells_eq,iO,List.drop_zero];rfl⟩
theorem kN.St (x:kN) (o:Nat) (xs:List AV):splice x.cells o xs=splice [.l5 false 3 (mp Token.cells x.reader.tokens),.int .i64 x.reader.next,.int .i64 x.reader.base,.l5 false 4 (mp Notation.cells x.table),.l5 false 1 (mp mo x.symbols),.int .i64 x.depth] o xs:=by rw[kN.cells_eq]
theorem kN.Kj (x:kN) (o:Nat) (c:AV) (cs:List AV):splice (c::cs) o x.cells=splice (c::cs) o [.l5 false 3 (mp Token.cells x.reader.tokens),.int .i64 x.reader.next,.int .i64 x.reader.base,.l5 false 4 (mp Notation.cells x.table),.l5 false 1 (mp mo x.symbols),.int .i64 x.depth]:=by rw[kN.cells_eq]
theorem kN.app (x:kN) (l:List AV):x.cells++l=(.l5 false 3 (mp Token.cells x.reader.tokens):AV)::(.int .i64 x.reader.next:AV)::(.int .i64 x.reader.base:AV)::(.l5 false 4 (mp Notation.cells x.table):AV)::(.l5 false 1 (mp mo x.symbols):AV)::(.int .i64 x.depth:AV)::l:=by rw[kN.cells_eq];rfl
theorem kN.cns (x:kN) (c:AV):c::x.cells=[c,.l5 false 3 (mp Token.cells x.reader.tokens),.int .i64 x.reader.next,.int .i64 x.reader.base,.l5 false 4 (mp Notation.cells x.table),.l5 false 1 (mp mo x.symbols),.int .i64 x.depth]:=by rw[kN.cells_eq]
attribute [go_sem] kN.app kN.cns
attribute [go_sem] kN.nbs kN.Ss kN.U6 kN.reads kN.length kN.scalar
attribute [go_sem low] kN.St kN.Kj
structure kT where
 name:Str
 t:Syntax
def kT.cells (x:kT):List AV:=[.str (sb x.name)]++x.t.cells
theorem kT.mD (x:kT):x.cells=[.str (sb x.name)]++x.t.cells:=rfl
theorem kT.cells_eq (x:kT):x.cells=[.str (sb x.name),.int .i64 x.t.kind,.str (sb x.t.text),.int .i64 x.t.num,.l5 false 1 (mp mo x.t.names),.l5 false 2 (mp kO.cells x.t.levels),.l5 false 8 (mp Syntax.cells x.t.kids),.int .i64 x.t.from_,.int .i64 x.t.to]:=by
 simp only[kT.cells,Syntax.cells_eq,iK,iL,iM]
attribute [irreducible] kT.cells
theorem kT.length (x:kT):x.cells.length=9:=by rw[kT.cells_eq];rfl
theorem kT.scalar (x:kT):x.cells.all AV.scalar=true:=by rw[kT.cells_eq];rfl
theorem kT.nb (n:Nat) (x:kT):nbL n x.cells:=by
 rw[kT.mD]
 exact (JE ⟨trivial,trivial⟩ (Syntax.nb n x.t))
def kT.of (H:List AObj):List AV→Option kT
 |[c0,c1,c2,c3,c4,c5,c6,c7,c8]=>(dS c0).bind fun x0=>(Syntax.of H [c1,c2,c3,c4,c5,c6,c7,c8]).bind fun x1=>some (.mk x0 x1)
 |_=>none
theorem kT.wm {H:List AObj} {c0 c1 c2 c3 c4 c5 c6 c7 c8:AV}:kT.of H [c0,c1,c2,c3,c4,c5,c6,c7,c8]=(dS c0).bind fun x0=>(Syntax.of H [c1,c2,c3,c4,c5,c6,c7,c8]).bind fun x1=>some (.mk x0 x1):=rfl
theorem kT.nY (H:List AObj) (x:kT):kT.of H [.str (sb x.name),.int .i64 x.t.kind,.str (sb x.t.text),.int .i64 x.t.num,.l5 false 1 (mp mo x.t.names),.l5 false 2 (mp kO.cells x.t.levels),.l5 false 8 (mp Syntax.cells x.t.kids),.int .i64 x.t.from_,.int .i64 x.t.to]=some x:=by
 simp only[kT.wm,Mp,Hu,Sk,x8,Ht,beq_self_eq_true,iH,cond_true,dL,Syntax.nY]
 try (cases x;rfl)
theorem kT.nH (H:List AObj) (x:kT):kT.of H x.cells=some x:=by rw[kT.cells_eq];exact kT.nY H x
theorem kT.Bo {H:List AObj} {n:Nat} {cs:List AV} {x:kT} (h:kT.of H cs=some x):oN H n cs x.cells:=by
 unfold kT.of at h
 split at h
 ·simp only[iE,iF] at h
  obtain ⟨x0,h0,x1,h1,rfl⟩:=h
  rw[kT.mD]
  exact (oN.append (oN.cons (Wg h0) oN.nil) (Syntax.Bo h1))
 ·cases h
def kT.cel:R0 kT:=⟨kT.cells,kT.of,fun _ _ _ _ h=>kT.Bo h,kT.nb⟩
def kT.row:Row kT:=⟨kT.cells,kT.of [],9,fun _ _ h=>(kT.Bo (n:=0) h).toSub,kT.nb⟩
theorem kT.n7 (xs:List kT):mapO (kT.of []) (mp kT.cells xs)=some xs:=Cm (kT.nH []) xs
theorem kT.oG (xs:List kT) (i:Nat) (r:List AV):mapO (kT.of []) ((mp kT.cells xs).set i r)=bif decide (i<xs.length) then (kT.of [] r).bind fun y=>some (xs.set i y) else some xs:=Go.Abs.oG (kT.nH []) xs i r
attribute [go_sem low] kT.oG
theorem kT.Ki:kT.row.enc=kT.cells∧kT.row.dec=kT.of []∧kT.row.sz=9∧kT.cel.enc=kT.cells∧kT.cel.dec=kT.of:=⟨rfl,rfl,rfl,rfl,rfl⟩
theorem kT.eta (x:kT):kT.mk x.name x.t=x:=by cases x;rfl
attribute [go_sem] kT.wm kT.nH kT.n7 kT.Ki kT.eta
theorem kT.prj:(∀ (y0:Str) (y1:Syntax),(kT.mk y0 y1).name=y0)∧(∀ (y0:Str) (y1:Syntax),(kT.mk y0 y1).t=y1):=⟨fun _ _=>rfl,fun _ _=>rfl⟩
attribute [go_sem] kT.prj
theorem kT.nbs:(∀ (n:Nat) (x:kT),Go.Abs.nbL n x.cells=True)∧ ∀ (n:Nat) (xs:List kT),Go.Abs.Lu n (mp kT.cells xs)=True:=⟨fun n x=>eq_true (kT.nb n x),fun n xs=>eq_true (pV (kT.nb n) xs)⟩
theorem kT.Ss:(∀ (ρ:Nat→Nat) (x:kT),renL ρ x.cells=x.cells)∧ ∀ (ρ:Nat→Nat) (xs:List kT),CU ρ (mp kT.cells xs)=mp kT.cells xs:=⟨fun ρ x=>pg ρ _ (kT.nb 0 x),fun ρ xs=>sw ρ _ (pV (kT.nb 0) xs)⟩
theorem kT.vw (H:List AObj) (x:kT):Vv H x.cells=some (x.cells,[]):=C3 H _ (kT.nb 0 x)
attribute [go_sem] kT.vw
theorem kT.U6 (low:Nat) (H:List AObj) (x:kT):Sd low H x.cells=x.cells:=xY low H _ (kT.nb 0 x)
theorem kT.rpv (l:Nat) (ds:List AV) (x:kT):x.cells.map (rpV l ds)=x.cells:=AB _ (kT.nb 0 x)
attribute [go_sem] kT.rpv
theorem kT.tk:(∀x:kT,iI 9 x.cells=x.cells)∧ ∀x:kT,iJ 9 x.cells=[]:=⟨fun x=>by rw[kT.cells_eq];rfl,fun x=>by rw[kT.cells_eq];rfl⟩
attribute [go_sem] kT.tk
theorem kT.reads:
 (∀x:kT,cellsOf (.agg x.cells)=some x.cells)∧
 (∀x:kT,mg true 9 x.cells=some (.agg x.cells))∧
 (∀x:kT,mg false 1 x.cells=some (.str (sb x.name)))∧
 (∀x:kT,mg false 1 (x.cells.drop 1)=some (.int .i64 x.t.kind))∧
 (∀x:kT,mg false 1 (x.cells.drop 2)=some (.str (sb x.t.text)))∧
 (∀x:kT,mg false 1 (x.cells.drop 3)=some (.int .i64 x.t.num))∧
 (∀x:kT,mg false 1 (x.cells.drop 4)=some (.l5 false 1 (mp mo x.t.names)))∧
 (∀x:kT,mg false 1 (x.cells.drop 5)=some (.l5 false 2 (mp kO.cells x.t.levels)))∧
 (∀x:kT,mg false 1 (x.cells.drop 6)=some (.l5 false 8 (mp Syntax.cells x.t.kids)))∧
 (∀x:kT,mg false 1 (x.cells.drop 7)=some (.int .i64 x.t.from_))∧
 (∀x:kT,mg false 1 (x.cells.drop 8)=some (.int .i64 x.t.to))∧
 (∀x:kT,mg true 8 (x.cells.drop 1)=some (.agg x.t.cells)):=
 ⟨fun x=>by simp only[cellsOf,kT.scalar,if_true],
  fun x=>Cp (kT.length x),
  fun x=>by rw[kT.cells_eq];rfl,
  fun x=>by rw[kT.cells_eq];rfl,
  fun x=>by rw[kT.cells_eq];rfl,
  fun x=>by rw[kT.cells_eq];rfl,
  fun x=>by rw[kT.cells_eq];rfl,
  fun x=>by rw[kT.cells_eq];rfl,
  fun x=>by rw[kT.cells_eq];rfl,
  fun x=>by rw[kT.cells_eq];rfl,
  fun x=>by rw[kT.cells_eq];rfl,
  fun x=>by rw[kT.cells_eq];simp only[Syntax.cells_eq,iO,List.drop_zero];rfl⟩
theorem kT.St (x:kT) (o:Nat) (xs:List AV):splice x.cells o xs=splice [.str (sb x.name),.int .i64 x.t.kind,.str (sb x.t.text),.int .i64 x.t.num,.l5 false 1 (mp mo x.t.names),.l5 false 2 (mp kO.cells x.t.levels),.l5 false 8 (mp Syntax.cells x.t.kids),.int .i64 x.t.from_,.int .i64 x.t.to] o xs:=by rw[kT.cells_eq]
theorem kT.Kj (x:kT) (o:Nat) (c:AV) (cs:List AV):splice (c::cs) o x.cells=splice (c::cs) o [.str (sb x.name),.int .i64 x.t.kind,.str (sb x.t.text),.int .i64 x.t.num,.l5 false 1 (mp mo x.t.names),.l5 false 2 (mp kO.cells x.t.levels),.l5 false 8 (mp Syntax.cells x.t.kids),.int .i64 x.t.from_,.int .i64 x.t.to]:=by rw[kT.cells_eq]
theorem kT.app (x:kT) (l:List AV):x.cells++l=(.str (sb x.name):AV)::(.int .i64 x.t.kind:AV)::(.str (sb x.t.text):AV)::(.int .i64 x.t.num:AV)::(.l5 false 1 (mp mo x.t.names):AV)::(.l5 false 2 (mp kO.cells x.t.levels):AV)::(.l5 false 8 (mp Syntax.cells x.t.kids):AV)::(.int .i64 x.t.from_:AV)::(.int .i64 x.t.to:AV)::l:=by rw[kT.cells_eq];rfl
theorem kT.cns (x:kT) (c:AV):c::x.cells=[c,.str (sb x.name),.int .i64 x.t.kind,.str (sb x.t.text),.int .i64 x.t.num,.l5 false 1 (mp mo x.t.names),.l5 false 2 (mp kO.cells x.t.levels),.l5 false 8 (mp Syntax.cells x.t.kids),.int .i64 x.t.from_,.int .i64 x.t.to]:=by rw[kT.cells_eq]
attribute [go_sem] kT.app kT.cns
attribute [go_sem] kT.nbs kT.Ss kT.U6 kT.reads kT.length kT.scalar
attribute [go_sem low] kT.St kT.Kj
end Go.Abs
namespace Go.Abs
open Go.Proofs
theorem tf0:
 oQ Tryz.prog 1=some (false,1)∧
 nU Tryz.prog 1=none∧
 oB Tryz.prog 1=some [.raw .nilFunc]∧
 va Tryz.prog 1=false∧
 n6 Tryz.prog 1=true∧
 qU Tryz.prog 1=true∧
 oQ Tryz.prog 3=some (false,1)∧
 nU Tryz.prog 3=none∧
 oB Tryz.prog 3=some [.int .i64 0]∧
 va Tryz.prog 3=false∧
 tint Tryz.prog 3=some .i64∧
 n6 Tryz.prog 3=false∧
 qU Tryz.prog 3=true∧
 oQ Tryz.prog 4=some (false,1)∧
 nU Tryz.prog 4=none∧
 oB Tryz.prog 4=some [.bool false]∧
 va Tryz.prog 4=false∧
 n6 Tryz.prog 4=true∧
 qU Tryz.prog 4=true∧
 oQ Tryz.prog 5=some (false,1)∧
 nU Tryz.prog 5=none∧
 oB Tryz.prog 5=some [.int .u8 0]∧
 va Tryz.prog 5=false∧
 tint Tryz.prog 5=some .u8∧
 n6 Tryz.prog 5=false∧
 qU Tryz.prog 5=true∧
 oQ Tryz.prog 9=some (false,1)∧
 nU Tryz.prog 9=none∧
 oB Tryz.prog 9=some [.str iG]∧
 va Tryz.prog 9=true∧
 tint Tryz.prog 9=none∧
 n6 Tryz.prog 9=true∧
 qU Tryz.prog 9=true∧
 oQ Tryz.prog 20=some (false,1)∧
 nU Tryz.prog 20=none∧
 oB Tryz.prog 20=some [.raw .nilIface]∧
 va Tryz.prog 20=false∧
 n6 Tryz.prog 20=true∧
 qU Tryz.prog 20=false∧
 oQ Tryz.prog 21=some (false,1)∧
 nU Tryz.prog 21=none∧
 oB Tryz.prog 21=some [.int .i32 0]∧
 va Tryz.prog 21=false∧
 tint Tryz.prog 21=some .i32∧
 n6 Tryz.prog 21=false∧
 qU Tryz.prog 21=true∧
 oQ Tryz.prog 22=some (false,1)∧
 nU Tryz.prog 22=some (53,4,56)∧
 oB Tryz.prog 22=some [.l5 true 0 []]∧
 va Tryz.prog 22=false∧
 n6 Tryz.prog 22=true∧
 qU Tryz.prog 22=true∧
 oQ Tryz.prog 25=some (false,1)∧
 nU Tryz.prog 25=some (9,1,16)∧
 oB Tryz.prog 25=some [.l5 true 0 []]∧
 va Tryz.prog 25=false∧
 n6 Tryz.prog 25=true∧
 qU Tryz.prog 25=true∧
 oQ Tryz.prog 26=some (false,1)∧
 nU Tryz.prog 26=some (80,2,32)∧
 oB Tryz.prog 26=some [.l5 true 0 []]∧
 va Tryz.prog 26=false∧
 n6 Tryz.prog 26=true∧
 qU Tryz.prog 26=true∧
 oQ Tryz.prog 27=some (false,1)∧
 nU Tryz.prog 27=some (29,8,120)∧
 oB Tryz.prog 27=some [.l5 true 0 []]∧
 va Tryz.prog 27=false∧
 n6 Tryz.prog 27=true∧
 qU Tryz.prog 27=true∧
 oQ Tryz.prog 29=some (true,8)∧
 Ci Tryz.prog 29=true∧
 yU Tryz.prog 29 0=some (0,3)∧
 nF Tryz.prog 29 0=some (0,1)∧
 yU Tryz.prog 29 1=some (1,9)∧
 nF Tryz.prog 29 1=some (1,1)∧
 yU Tryz.prog 29 2=some (2,3)∧
 nF Tryz.prog 29 2=some (2,1)∧
 yU Tryz.prog 29 3=some (3,25)∧
 nF Tryz.prog 29 3=some (3,1)∧
 yU Tryz.prog 29 4=some (4,26)∧
 nF Tryz.prog 29 4=some (4,1)∧
 yU Tryz.prog 29 5=some (5,27)∧
 nF Tryz.prog 29 5=some (5,1)∧
 yU Tryz.prog 29 6=some (6,3)∧
 nF Tryz.prog 29 6=some (6,1)∧
 yU Tryz.prog 29 7=some (7,3)∧
 nF Tryz.prog 29 7=some (7,1)∧
 nU Tryz.prog 29=none∧
 oB Tryz.prog 29=some [.int .i64 0,.str iG,.int .i64 0,.l5 true 0 [],.l5 true 0 [],.l5 true 0 [],.int .i64 0,.int .i64 0]∧
 va Tryz.prog 29=false∧
 n6 Tryz.prog 29=true∧
 qU Tryz.prog 29=true∧
 oQ Tryz.prog 30=some (false,1)∧
 nU Tryz.prog 30=none∧
 oB Tryz.prog 30=some [.int .i64 0]∧
 va Tryz.prog 30=false∧
 tint Tryz.prog 30=some .i64∧
 n6 Tryz.prog 30=false∧
 qU Tryz.prog 30=true∧
 oQ Tryz.prog 39=some (false,1)∧
 nU Tryz.prog 39=none∧
 oB Tryz.prog 39=some [.raw .nilFunc]∧
 va Tryz.prog 39=false∧
 n6 Tryz.prog 39=true∧
 qU Tryz.prog 39=true∧
 oQ Tryz.prog 40=some (false,1)∧
 nU Tryz.prog 40=some (45,3,32)∧
 oB Tryz.prog 40=some [.l5 true 0 []]∧
 va Tryz.prog 40=false∧
 n6 Tryz.prog 40=true∧
 qU Tryz.prog 40=true∧
 oQ Tryz.prog 45=some (true,3)∧
 Ci Tryz.prog 45=true∧
 yU Tryz.prog 45 0=some (0,3)∧
 nF Tryz.prog 45 0=some (0,1)∧
 yU Tryz.prog 45 1=some (1,9)∧
 nF Tryz.prog 45 1=some (1,1)∧
 yU Tryz.prog 45 2=some (2,3)∧
 nF Tryz.prog 45 2=some (2,1):=
 ⟨by kernel_rfl,by kernel_rfl,by kernel_rfl,by kernel_rfl,by kernel_rfl,by kernel_rfl,by kernel_rfl,by kernel_rfl,by kernel_rfl,by kernel_rfl,by kernel_rfl,by kernel_rfl,by kernel_rfl,by kernel_rfl,by kernel_rfl,by kernel_rfl,by kernel_rfl,by kernel_rfl,by kernel_rfl,by kernel_rfl,by kernel_rfl,by kernel_rfl,by kernel_rfl,by kernel_rfl,by kernel_rfl,by kernel_rfl,by kernel_rfl,by kernel_rfl,by kernel_rfl,by kernel_rfl,by kernel_rfl,by kernel_rfl,by kernel_rfl,by kernel_rfl,by kernel_rfl,by kernel_rfl,by kernel_rfl,by kernel_rfl,by kernel_rfl,by kernel_rfl,by kernel_rfl,by kernel_rfl,by kernel_rfl,by kernel_rfl,by kernel_rfl,by kernel_rfl,by kernel_rfl,by kernel_rfl,by kernel_rfl,by kernel_rfl,by kernel_rfl,by kernel_rfl,by kernel_rfl,by kernel_rfl,by kernel_rfl,by kernel_rfl,by kernel_rfl,by kernel_rfl,by kernel_rfl,by kernel_rfl,by kernel_rfl,by kernel_rfl,by kernel_rfl,by kernel_rfl,by kernel_rfl,by kernel_rfl,by kernel_rfl,by kernel_rfl,by kernel_rfl,by kernel_rfl,by kernel_rfl,by kernel_rfl,by kernel_rfl,by kernel_rfl,by kernel_rfl,by kernel_rfl,by kernel_rfl,by kernel_rfl,by kernel_rfl,by kernel_rfl,by kernel_rfl,by kernel_rfl,by kernel_rfl,by kernel_rfl,by kernel_rfl,by kernel_rfl,by kernel_rfl,by kernel_rfl,by kernel_rfl,by kernel_rfl,by kernel_rfl,by kernel_rfl,by kernel_rfl,by kernel_rfl,by kernel_rfl,by kernel_rfl,by kernel_rfl,by kernel_rfl,by kernel_rfl,by kernel_rfl,by kernel_rfl,by kernel_rfl,by kernel_rfl,by kernel_rfl,by kernel_rfl,by kernel_rfl,by kernel_rfl,by kernel_rfl,by kernel_rfl,by kernel_rfl,by kernel_rfl,by kernel_rfl,by kernel_rfl,by kernel_rfl,by kernel_rfl,by kernel_rfl,by kernel_rfl,by kernel_rfl,by kernel_rfl,by kernel_rfl⟩
theorem tf1:
 nU Tryz.prog 45=none∧
 oB Tryz.prog 45=some [.int .i64 0,.str iG,.int .i64 0]∧
 va Tryz.prog 45=false∧
 n6 Tryz.prog 45=true∧
 qU Tryz.prog 45=true∧
 oQ Tryz.prog 53=some (true,4)∧
 Ci Tryz.prog 53=true∧
 yU Tryz.prog 53 0=some (0,25)∧
 nF Tryz.prog 53 0=some (0,1)∧
 yU Tryz.prog 53 1=some (1,3)∧
 nF Tryz.prog 53 1=some (1,1)∧
 yU Tryz.prog 53 2=some (2,3)∧
 nF Tryz.prog 53 2=some (2,1)∧
 yU Tryz.prog 53 3=some (3,9)∧
 nF Tryz.prog 53 3=some (3,1)∧
 nU Tryz.prog 53=none∧
 oB Tryz.prog 53=some [.l5 true 0 [],.int .i64 0,.int .i64 0,.str iG]∧
 va Tryz.prog 53=false∧
 n6 Tryz.prog 53=true∧
 qU Tryz.prog 53=true∧
 oQ Tryz.prog 66=some (true,2)∧
 Ci Tryz.prog 66=true∧
 yU Tryz.prog 66 0=some (0,30)∧
 nF Tryz.prog 66 0=some (0,1)∧
 yU Tryz.prog 66 1=some (1,3)∧
 nF Tryz.prog 66 1=some (1,1)∧
 nU Tryz.prog 66=none∧
 oB Tryz.prog 66=some [.int .i64 0,.int .i64 0]∧
 va Tryz.prog 66=false∧
 n6 Tryz.prog 66=true∧
 qU Tryz.prog 66=true∧
 oQ Tryz.prog 68=some (false,1)∧
 nU Tryz.prog 68=none∧
 oB Tryz.prog 68=some [.raw (.pointer none)]∧
 va Tryz.prog 68=false∧
 n6 Tryz.prog 68=true∧
 qU Tryz.prog 68=true∧
 oQ Tryz.prog 78=some (false,1)∧
 nU Tryz.prog 78=some (82,2,24)∧
 oB Tryz.prog 78=some [.l5 true 0 []]∧
 va Tryz.prog 78=false∧
 n6 Tryz.prog 78=true∧
 qU Tryz.prog 78=true∧
 oQ Tryz.prog 80=some (true,2)∧
 Ci Tryz.prog 80=true∧
 yU Tryz.prog 80 0=some (0,4)∧
 nF Tryz.prog 80 0=some (0,1)∧
 yU Tryz.prog 80 1=some (1,78)∧
 nF Tryz.prog 80 1=some (1,1)∧
 nU Tryz.prog 80=none∧
 oB Tryz.prog 80=some [.bool false,.l5 true 0 []]∧
 va Tryz.prog 80=false∧
 n6 Tryz.prog 80=true∧
 qU Tryz.prog 80=true∧
 oQ Tryz.prog 82=some (true,2)∧
 Ci Tryz.prog 82=true∧
 yU Tryz.prog 82 0=some (0,9)∧
 nF Tryz.prog 82 0=some (0,1)∧
 yU Tryz.prog 82 1=some (1,3)∧
 nF Tryz.prog 82 1=some (1,1)∧
 nU Tryz.prog 82=none∧
 oB Tryz.prog 82=some [.str iG,.int .i64 0]∧
 va Tryz.prog 82=false∧
 n6 Tryz.prog 82=true∧
 qU Tryz.prog 82=true∧
 oQ Tryz.prog 84=some (false,1)∧
 nU Tryz.prog 84=none∧
 oB Tryz.prog 84=some [.raw .nilFunc]∧
 va Tryz.prog 84=false∧
 n6 Tryz.prog 84=true∧
 qU Tryz.prog 84=true∧
 oQ Tryz.prog 100=some (true,3)∧
 Ci Tryz.prog 100=true∧
 yU Tryz.prog 100 0=some (0,40)∧
 nF Tryz.prog 100 0=some (0,1)∧
 yU Tryz.prog 100 1=some (1,3)∧
 nF Tryz.prog 100 1=some (1,1)∧
 yU Tryz.prog 100 2=some (2,3)∧
 nF Tryz.prog 100 2=some (2,1)∧
 nU Tryz.prog 100=none∧
 oB Tryz.prog 100=some [.l5 true 0 [],.int .i64 0,.int .i64 0]∧
 va Tryz.prog 100=false∧
 n6 Tryz.prog 100=true∧
 qU Tryz.prog 100=true∧
 oQ Tryz.prog 102=some (true,6)∧
 Ci Tryz.prog 102=true∧
 yU Tryz.prog 102 0=some (0,100)∧
 nF Tryz.prog 102 0=some (0,3)∧
 yU Tryz.prog 102 1=some (3,22)∧
 nF Tryz.prog 102 1=some (3,1)∧
 yU Tryz.prog 102 2=some (4,25)∧
 nF Tryz.prog 102 2=some (4,1)∧
 yU Tryz.prog 102 3=some (5,3)∧
 nF Tryz.prog 102 3=some (5,1)∧
 nU Tryz.prog 102=none∧
 oB Tryz.prog 102=some [.l5 true 0 [],.int .i64 0,.int .i64 0,.l5 true 0 [],.l5 true 0 [],.int .i64 0]∧
 va Tryz.prog 102=false∧
 n6 Tryz.prog 102=true∧
 qU Tryz.prog 102=true∧
 oQ Tryz.prog 119=some (false,1)∧
 nU Tryz.prog 119=some (148,9,136)∧
 oB Tryz.prog 119=some [.l5 true 0 []]∧
 va Tryz.prog 119=false∧
 n6 Tryz.prog 119=true∧
 qU Tryz.prog 119=true∧
 oQ Tryz.prog 127=some (false,1)∧
 nU Tryz.prog 127=none∧
 oB Tryz.prog 127=some [.raw (.pointer none)]∧
 va Tryz.prog 127=false∧
 n6 Tryz.prog 127=true∧
 qU Tryz.prog 127=true∧
 oQ Tryz.prog 144=some (false,1)∧
 nU Tryz.prog 144=none∧
 oB Tryz.prog 144=some [.raw (.map none)]∧
 R2 Tryz.prog 144=some (.bool false)∧
 va Tryz.prog 144=false∧
 n6 Tryz.prog 144=true∧
 qU Tryz.prog 144=true∧
 oQ Tryz.prog 148=some (true,9)∧
 Ci Tryz.prog 148=true:=
 ⟨by kernel_rfl,by kernel_rfl,by kernel_rfl,by kernel_rfl,by kernel_rfl,by kernel_rfl,by kernel_rfl,by kernel_rfl,by kernel_rfl,by kernel_rfl,by kernel_rfl,by kernel_rfl,by kernel_rfl,by kernel_rfl,by kernel_rfl,by kernel_rfl,by kernel_rfl,by kernel_rfl,by kernel_rfl,by kernel_rfl,by kernel_rfl,by kernel_rfl,by kernel_rfl,by kernel_rfl,by kernel_rfl,by kernel_rfl,by kernel_rfl,by kernel_rfl,by kernel_rfl,by kernel_rfl,by kernel_rfl,by kernel_rfl,by kernel_rfl,by kernel_rfl,by kernel_rfl,by kernel_rfl,by kernel_rfl,by kernel_rfl,by kernel_rfl,by kernel_rfl,by kernel_rfl,by kernel_rfl,by kernel_rfl,by kernel_rfl,by kernel_rfl,by kernel_rfl,by kernel_rfl,by kernel_rfl,by kernel_rfl,by kernel_rfl,by kernel_rfl,by kernel_rfl,by kernel_rfl,by kernel_rfl,by kernel_rfl,by kernel_rfl,by kernel_rfl,by kernel_rfl,by kernel_rfl,by kernel_rfl,by kernel_rfl,by kernel_rfl,by kernel_rfl,by kernel_rfl,by kernel_rfl,by kernel_rfl,by kernel_rfl,by kernel_rfl,by kernel_rfl,by kernel_rfl,by kernel_rfl,by kernel_rfl,by kernel_rfl,by kernel_rfl,by kernel_rfl,by kernel_rfl,by kernel_rfl,by kernel_rfl,by kernel_rfl,by kernel_rfl,by kernel_rfl,by kernel_rfl,by kernel_rfl,by kernel_rfl,by kernel_rfl,by kernel_rfl,by kernel_rfl,by kernel_rfl,by kernel_rfl,by kernel_rfl,by kernel_rfl,by kernel_rfl,by kernel_rfl,by kernel_rfl,by kernel_rfl,by kernel_rfl,by kernel_rfl,by kernel_rfl,by kernel_rfl,by kernel_rfl,by kernel_rfl,by kernel_rfl,by kernel_rfl,by kernel_rfl,by kernel_rfl,by kernel_rfl,by kernel_rfl,by kernel_rfl,by kernel_rfl,by kernel_rfl,by kernel_rfl,by kernel_rfl,by kernel_rfl,by kernel_rfl,by kernel_rfl,by kernel_rfl,by kernel_rfl,by kernel_rfl,by kernel_rfl,by kernel_rfl⟩
theorem tf2:
 yU Tryz.prog 148 0=some (0,9)∧
 nF Tryz.prog 148 0=some (0,1)∧
 yU Tryz.prog 148 1=some (1,29)∧
 nF Tryz.prog 148 1=some (1,8)∧
 nU Tryz.prog 148=none∧
 oB Tryz.prog 148=some [.str iG,.int .i64 0,.str iG,.int .i64 0,.l5 true 0 [],.l5 true 0 [],.l5 true 0 [],.int .i64 0,.int .i64 0]∧
 va Tryz.prog 148=false∧
 n6 Tryz.prog 148=true∧
 qU Tryz.prog 148=true∧
 oQ Tryz.prog 161=some (false,1)∧
 nU Tryz.prog 161=none∧
 oB Tryz.prog 161=some [.raw (.pointer none)]∧
 va Tryz.prog 161=false∧
 n6 Tryz.prog 161=true∧
 qU Tryz.prog 161=true∧
 oQ Tryz.prog 164=some (true,5)∧
 Ci Tryz.prog 164=true∧
 yU Tryz.prog 164 0=some (0,9)∧
 nF Tryz.prog 164 0=some (0,1)∧
 yU Tryz.prog 164 1=some (1,3)∧
 nF Tryz.prog 164 1=some (1,1)∧
 yU Tryz.prog 164 2=some (2,144)∧
 nF Tryz.prog 164 2=some (2,1)∧
 yU Tryz.prog 164 3=some (3,144)∧
 nF Tryz.prog 164 3=some (3,1)∧
 yU Tryz.prog 164 4=some (4,144)∧
 nF Tryz.prog 164 4=some (4,1)∧
 nU Tryz.prog 164=none∧
 oB Tryz.prog 164=some [.str iG,.int .i64 0,.raw (.map none),.raw (.map none),.raw (.map none)]∧
 va Tryz.prog 164=false∧
 n6 Tryz.prog 164=true∧
 qU Tryz.prog 164=true∧
 oQ Tryz.prog 165=some (false,1)∧
 nU Tryz.prog 165=some (25,1,24)∧
 oB Tryz.prog 165=some [.l5 true 0 []]∧
 va Tryz.prog 165=false∧
 n6 Tryz.prog 165=true∧
 qU Tryz.prog 165=true∧
 oQ Tryz.prog 166=some (false,1)∧
 nU Tryz.prog 166=none∧
 oB Tryz.prog 166=some [.raw .nilFunc]∧
 va Tryz.prog 166=false∧
 n6 Tryz.prog 166=true∧
 qU Tryz.prog 166=true∧
 oQ Tryz.prog 167=some (true,4)∧
 tarr Tryz.prog 167=some (4,1)∧
 Ci Tryz.prog 167=true∧
 nF Tryz.prog 167 0=some (0,1)∧
 nF Tryz.prog 167 1=some (1,1)∧
 nF Tryz.prog 167 2=some (2,1)∧
 nF Tryz.prog 167 3=some (3,1)∧
 nU Tryz.prog 167=none∧
 oB Tryz.prog 167=some [.raw .nilFunc,.raw .nilFunc,.raw .nilFunc,.raw .nilFunc]∧
 va Tryz.prog 167=false∧
 n6 Tryz.prog 167=true∧
 qU Tryz.prog 167=true∧
 oQ Tryz.prog 195=some (false,1)∧
 nU Tryz.prog 195=none∧
 oB Tryz.prog 195=some [.raw (.pointer none)]∧
 va Tryz.prog 195=false∧
 n6 Tryz.prog 195=true∧
 qU Tryz.prog 195=true∧
 oQ Tryz.prog 198=some (false,1)∧
 nU Tryz.prog 198=none∧
 oB Tryz.prog 198=some [.raw (.pointer none)]∧
 va Tryz.prog 198=false∧
 n6 Tryz.prog 198=true∧
 qU Tryz.prog 198=true∧
 oQ Tryz.prog 200=some (true,3)∧
 Ci Tryz.prog 200=true∧
 yU Tryz.prog 200 0=some (0,195)∧
 nF Tryz.prog 200 0=some (0,1)∧
 yU Tryz.prog 200 1=some (1,27)∧
 nF Tryz.prog 200 1=some (1,1)∧
 yU Tryz.prog 200 2=some (2,3)∧
 nF Tryz.prog 200 2=some (2,1)∧
 nU Tryz.prog 200=none∧
 oB Tryz.prog 200=some [.raw (.pointer none),.l5 true 0 [],.int .i64 0]∧
 va Tryz.prog 200=false∧
 n6 Tryz.prog 200=true∧
 qU Tryz.prog 200=true∧
 oQ Tryz.prog 202=some (true,0)∧
 Ci Tryz.prog 202=true∧
 nU Tryz.prog 202=none∧
 oB Tryz.prog 202=some []∧
 va Tryz.prog 202=false∧
 n6 Tryz.prog 202=true∧
 qU Tryz.prog 202=true∧
 oQ Tryz.prog 212=some (true,256)∧
 tarr Tryz.prog 212=some (256,1)∧
 Ci Tryz.prog 212=true∧
 nU Tryz.prog 212=none∧
 va Tryz.prog 212=false∧
 n6 Tryz.prog 212=true∧
 qU Tryz.prog 212=true∧
 oQ Tryz.prog 215=some (false,1)∧
 nU Tryz.prog 215=none∧
 oB Tryz.prog 215=some [.raw .nilFunc]∧
 va Tryz.prog 215=false∧
 n6 Tryz.prog 215=true∧
 qU Tryz.prog 215=true∧
 oQ Tryz.prog 220=some (true,256)∧
 tarr Tryz.prog 220=some (256,1)∧
 Ci Tryz.prog 220=true∧
 nU Tryz.prog 220=none∧
 va Tryz.prog 220=false∧
 n6 Tryz.prog 220=true∧
 qU Tryz.prog 220=true∧
 oQ Tryz.prog 229=some (false,1)∧
 nU Tryz.prog 229=none∧
 oB Tryz.prog 229=some [.raw (.map none)]∧
 R2 Tryz.prog 229=some (.agg [.l5 true 0 [],.int .i64 0,.int .i64 0,.str iG])∧
 va Tryz.prog 229=false∧
 n6 Tryz.prog 229=true∧
 qU Tryz.prog 229=true∧
 oQ Tryz.prog 231=some (true,4)∧
 Ci Tryz.prog 231=true∧
 yU Tryz.prog 231 0=some (0,229)∧
 nF Tryz.prog 231 0=some (0,1)∧
 yU Tryz.prog 231 1=some (1,229):=
 ⟨by kernel_rfl,by kernel_rfl,by kernel_rfl,by kernel_rfl,by kernel_rfl,by kernel_rfl,by kernel_rfl,by kernel_rfl,by kernel_rfl,by kernel_rfl,by kernel_rfl,by kernel_rfl,by kernel_rfl,by kernel_rfl,by kernel_rfl,by kernel_rfl,by kernel_rfl,by kernel_rfl,by kernel_rfl,by kernel_rfl,by kernel_rfl,by kernel_rfl,by kernel_rfl,by kernel_rfl,by kernel_rfl,by kernel_rfl,by kernel_rfl,by kernel_rfl,by kernel_rfl,by kernel_rfl,by kernel_rfl,by kernel_rfl,by kernel_rfl,by kernel_rfl,by kernel_rfl,by kernel_rfl,by kernel_rfl,by kernel_rfl,by kernel_rfl,by kernel_rfl,by kernel_rfl,by kernel_rfl,by kernel_rfl,by kernel_rfl,by kernel_rfl,by kernel_rfl,by kernel_rfl,by kernel_rfl,by kernel_rfl,by kernel_rfl,by kernel_rfl,by kernel_rfl,by kernel_rfl,by kernel_rfl,by kernel_rfl,by kernel_rfl,by kernel_rfl,by kernel_rfl,by kernel_rfl,by kernel_rfl,by kernel_rfl,by kernel_rfl,by kernel_rfl,by kernel_rfl,by kernel_rfl,by kernel_rfl,by kernel_rfl,by kernel_rfl,by kernel_rfl,by kernel_rfl,by kernel_rfl,by kernel_rfl,by kernel_rfl,by kernel_rfl,by kernel_rfl,by kernel_rfl,by kernel_rfl,by kernel_rfl,by kernel_rfl,by kernel_rfl,by kernel_rfl,by kernel_rfl,by kernel_rfl,by kernel_rfl,by kernel_rfl,by kernel_rfl,by kernel_rfl,by kernel_rfl,by kernel_rfl,by kernel_rfl,by kernel_rfl,by kernel_rfl,by kernel_rfl,by kernel_rfl,by kernel_rfl,by kernel_rfl,by kernel_rfl,by kernel_rfl,by kernel_rfl,by kernel_rfl,by kernel_rfl,by kernel_rfl,by kernel_rfl,by kernel_rfl,by kernel_rfl,by kernel_rfl,by kernel_rfl,by kernel_rfl,by kernel_rfl,by kernel_rfl,by kernel_rfl,by kernel_rfl,by kernel_rfl,by kernel_rfl,by kernel_rfl,by kernel_rfl,by kernel_rfl,by kernel_rfl,by kernel_rfl,by kernel_rfl⟩
theorem tf3:
 nF Tryz.prog 231 1=some (1,1)∧
 yU Tryz.prog 231 2=some (2,144)∧
 nF Tryz.prog 231 2=some (2,1)∧
 yU Tryz.prog 231 3=some (3,3)∧
 nF Tryz.prog 231 3=some (3,1)∧
 nU Tryz.prog 231=none∧
 oB Tryz.prog 231=some [.raw (.map none),.raw (.map none),.raw (.map none),.int .i64 0]∧
 va Tryz.prog 231=false∧
 n6 Tryz.prog 231=true∧
 qU Tryz.prog 231=true∧
 oQ Tryz.prog 279=some (false,1)∧
 nU Tryz.prog 279=none∧
 oB Tryz.prog 279=some [.raw (.pointer none)]∧
 va Tryz.prog 279=false∧
 n6 Tryz.prog 279=true∧
 qU Tryz.prog 279=true∧
 tbl Tryz.prog 4=true∧
 tany Tryz.prog 20=true:=
 ⟨by kernel_rfl,by kernel_rfl,by kernel_rfl,by kernel_rfl,by kernel_rfl,by kernel_rfl,by kernel_rfl,by kernel_rfl,by kernel_rfl,by kernel_rfl,by kernel_rfl,by kernel_rfl,by kernel_rfl,by kernel_rfl,by kernel_rfl,by kernel_rfl,by kernel_rfl,by kernel_rfl⟩
theorem mixed:Tryz.prog.follows .mixedOrders=true:=by kernel_rfl
attribute [go_sem] tf0 tf1 tf2 tf3
end Go.Abs
namespace Go.Abs
open Go.Proofs
set_option maxRecDepth 100000
theorem kR.aggEq (a b:kR):Yu Tryz.prog 82 a.cells b.cells=True:=by
 refine eq_true (aggEq_flat (by kernel_rfl) (by kernel_rfl) (by kernel_rfl) ?_)
 rw[kR.cells_eq,kR.cells_eq]
 exact ⟨⟨by decide,by kernel_rfl,by kernel_rfl,by dsimp only;kernel_rfl⟩,⟨by decide,by kernel_rfl,by kernel_rfl,rfl,.i64,by kernel_rfl⟩,trivial⟩
theorem kR.eqB (a b:kR):Go.Abs.eqB a.cells b.cells=((a.name==b.name)&&(a.plus==b.plus)):=by
 rw[kR.cells_eq,kR.cells_eq]
 simp only[Go.Abs.eqB,eq1,JI,Bool.and_true]
attribute [go_sem] kR.aggEq kR.eqB
theorem kR.aggEqL (a:kR) (y0:Str) (y1:Int):Yu Tryz.prog 82 a.cells [.str (sb y0),.int .i64 y1]=True:=by
 have:=kR.aggEq a (kR.mk y0 y1)
 rwa [kR.cells_eq (kR.mk y0 y1)] at this
theorem kR.eqBL (a:kR) (y0:Str) (y1:Int):Go.Abs.eqB a.cells [.str (sb y0),.int .i64 y1]=((a.name==y0)&&(a.plus==y1)):=by
 have:=kR.eqB a (kR.mk y0 y1)
 rwa [kR.cells_eq (kR.mk y0 y1)] at this
attribute [go_sem] kR.aggEqL kR.eqBL
theorem Token.sc (x:Token):x.cells.map sc1=x.cells:=by
 rw[Token.cells_eq];rfl
attribute [go_sem] Token.sc
theorem Notation.tyInj: ∀x y:Notation,((lK Notation.cel)).enc x=((lK Notation.cel)).enc y→x=y:=fun x y h=>by
 have h2:Notation.cells x=Notation.cells y:=AV.agg.inj h
 have h3:Notation.of [] x.cells=Notation.of [] y.cells:=by rw[h2]
 rw[Notation.nH,Notation.nH] at h3
 exact Option.some.inj h3
theorem Notation.mapD:(∀xs,VJ (lK Notation.cel) (.map (mp (mcT (lK Notation.cel)) xs))=some xs)∧VJ (lK Notation.cel) (.map [])=some []∧VJ (lK Notation.cel) (.map (mp mcB []))=some []:=ddMT_all Notation.tyInj
theorem Notation.mapUS (l:Nat) (s:Str) (v:Notation) (xs:List (Str×Notation)):mapUpEff l (sb s) (.agg v.cells) (some (.map (mp (mcT (lK Notation.cel)) xs)))=some {val:= .any,rd:=[l],up:=[(l,.map (mp (mcT (lK Notation.cel)) (U9 s v xs)))]}:=by
 have:=mapUp_T (t:=(lK Notation.cel)) (l:=l) (s:=s) (v:=v) (xs:=xs)
 rwa [show ((lK Notation.cel)).enc v= .agg v.cells from rfl] at this
theorem Notation.mapNS (l:Nat) (s:Str) (v:Notation):mapUpEff l (sb s) (.agg v.cells) (some (.map (mp mcB [])))=some {val:= .any,rd:=[l],up:=[(l,.map (mp (mcT (lK Notation.cel)) [(s,v)]))]}:=by
 have:=mapUp_nilB (t:=(lK Notation.cel)) (l:=l) (s:=s) (v:=v)
 rwa [show ((lK Notation.cel)).enc v= .agg v.cells from rfl] at this
theorem Notation.mapUL (l:Nat) (s:Str) (y0:List Str) (y1:Int) (y2:Int) (y3:Str) (xs:List (Str×Notation)):mapUpEff l (sb s) (.agg [.l5 false 1 (mp mo y0),.int .i64 y1,.int .i64 y2,.str (sb y3)]) (some (.map (mp (mcT (lK Notation.cel)) xs)))=some {val:= .any,rd:=[l],up:=[(l,.map (mp (mcT (lK Notation.cel)) (U9 s (Notation.mk y0 y1 y2 y3) xs)))]}:=by
 have:=mapUp_T (t:=(lK Notation.cel)) (l:=l) (s:=s) (v:=(Notation.mk y0 y1 y2 y3)) (xs:=xs)
 rwa [show ((lK Notation.cel)).enc (Notation.mk y0 y1 y2 y3)= .agg [.l5 false 1 (mp mo y0),.int .i64 y1,.int .i64 y2,.str (sb y3)] from congrArg AV.agg (Notation.cells_eq (Notation.mk y0 y1 y2 y3))] at this
theorem Notation.mapNL (l:Nat) (s:Str) (y0:List Str) (y1:Int) (y2:Int) (y3:Str):mapUpEff l (sb s) (.agg [.l5 false 1 (mp mo y0),.int .i64 y1,.int .i64 y2,.str (sb y3)]) (some (.map (mp mcB [])))=some {val:= .any,rd:=[l],up:=[(l,.map (mp (mcT (lK Notation.cel)) [(s,(Notation.mk y0 y1 y2 y3))]))]}:=by
 have:=mapUp_nilB (t:=(lK Notation.cel)) (l:=l) (s:=s) (v:=(Notation.mk y0 y1 y2 y3))
 rwa [show ((lK Notation.cel)).enc (Notation.mk y0 y1 y2 y3)= .agg [.l5 false 1 (mp mo y0),.int .i64 y1,.int .i64 y2,.str (sb y3)] from congrArg AV.agg (Notation.cells_eq (Notation.mk y0 y1 y2 y3))] at this
attribute [go_sem] Notation.mapD Notation.mapUS Notation.mapUL Notation.mapNS Notation.mapNL
end Go.Abs
namespace Go.Abs
abbrev Tb:Type:=(kN×Unit)
abbrev T0:Type:=(Tb×Unit)
abbrev T9:Type:=(List (Str×Notation))
abbrev T5:Type:=(List (Str×Bool))
abbrev T3:Type:=((Int×Unit)×(T9×(T9×(T5×Unit))))
abbrev T4:Type:=(kP×Unit)
abbrev T6:Type:=(PR (T0×(Syntax×Unit)) (T0×T4))
abbrev T7:Type:=(((List Syntax)×(Int×Unit))×T3)
abbrev T8:Type:=(Tb×((Syntax×Unit)×Unit))
abbrev Ta:Type:=((Str×(Int×Unit))×(T5×(T5×(T5×Unit))))
abbrev Tc:Type:=(Unit×((Syntax×Unit)×((Int×Unit)×((Int×Unit)×T7))))
abbrev Td:Type:=(Tb×(Unit×(Unit×((List kR)×Unit))))
abbrev Te:Type:=(List kO)
abbrev Tf:Type:=((Syntax×Unit)×((Int×Unit)×((Int×Unit)×Unit)))
abbrev Tg:Type:=(PR (T7×(Syntax×(Int×Unit))) (T7×(Unit×Unit)))
abbrev Th:Type:=(Unit×(Unit×((List kR)×T0)))
abbrev Ti:Type:=(List kT)
abbrev TR:Type:=(Int×(Int×(Int×Unit)))
abbrev Tj:Type:=(Ta×TR)
abbrev Tk:Type:=((Syntax×Unit)×((Syntax×Unit)×Unit))
abbrev Tl:Type:=(PR (T8×Unit) (T8×T4))
abbrev Tm:Type:=(PR (T7×(Syntax×Unit)) (T7×(Unit×Unit)))
abbrev Tn:Type:=(PR (T0×Unit) (T0×T4))
abbrev To:Type:=((List Str)×Unit)
abbrev Tp:Type:=(Tb×(Unit×(Unit×(Te×Unit))))
abbrev TP:Type:=(T0×(Str×Unit))
abbrev Tq:Type:=(PR TP (T0×T4))
abbrev Ts:Type:=(PR (T0×((List kR)×Unit)) (T0×T4))
abbrev Tt:Type:=((Unit×Int)×(Unit×(T5×Unit)))
abbrev TF:Type:=((List Syntax)×Unit)
abbrev Tu:Type:=(PR (T0×TF) (T0×T4))
abbrev Tv:Type:=(PR (T0×(kO×Unit)) (T0×T4))
abbrev Tw:Type:=(PR (T0×(Ti×Unit)) (T0×T4))
abbrev Tx:Type:=(Unit×(Unit×(Te×T0)))
abbrev Tz:Type:=(PR (Td×Unit) (Td×T4))
abbrev TA:Type:=((Unit×Int)×Tk)
abbrev TB:Type:=(PR (Th×Unit) (Th×T4))
abbrev TC:Type:=((List Token)×Int×Int)
abbrev TD:Type:=(PR (Unit×(kU×Unit)) (Unit×T4))
abbrev TE:Type:=(PR (T0×To) (T0×T4))
abbrev TG:Type:=(PR (T3×(Str×To)) (T3×(Str×To)))
abbrev TH:Type:=(PR (Unit×Unit) (T3×Unit))
abbrev TI:Type:=(Notation×(Int×((List Syntax)×(Int×Unit))))
abbrev TJ:Type:=(T3×(Int×Unit))
abbrev TK:Type:=(PR (T0×(Int×Unit)) (T0×T4))
abbrev TL:Type:=(PR (Tp×Unit) (Tp×T4))
abbrev TM:Type:=(PR (T0×(Te×Unit)) (T0×T4))
abbrev TN:Type:=((Unit×T0)×Unit)
abbrev TO:Type:=(Syntax×Int×Int)
abbrev TQ:Type:=(Unit×(Unit×(T5×Unit)))
abbrev TS:Type:=(T7×(Str×(Bool×Unit)))
abbrev TT:Type:=(PR (T0×Unit) (Unit×T4))
abbrev TU:Type:=(PR (Tx×Unit) (Tx×T4))
abbrev TV:Type:=(Syntax×(Ti×(Str×Unit)))
abbrev TW:Type:=((Te×Unit)×Unit)
abbrev TX:Type:=((T5×Unit)×Unit)
abbrev TY:Type:=(Str×(Int×(Int×((List Notation)×Unit))))
end Go.Abs
