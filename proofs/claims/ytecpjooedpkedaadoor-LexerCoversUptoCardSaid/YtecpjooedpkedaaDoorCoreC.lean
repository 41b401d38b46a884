/- A part of the proof: abstract states and the rules for them. -/
import Derived.Test.YtecpjooedpkedaaDoorCoreB
import Derived.Attr
import Derived.Laws.StructEq
import Derived.ChangeKeysEq
import Derived.Below
import Derived.Laws.AppendOwn
import Derived.Lib.Join
import Derived.Lib.SplitLaws
import Derived.Lib.IndexAny
import Derived.Lib.IndexMore
import Derived.Deep.Draws
set_option linter.all false
namespace Go.Abs

section lists
variable {α β γ : Type}

def mapO (f : β → Option α) : List β → Option (List α)
  | [] => some []
  | x :: xs => (f x).bind fun y => (mapO f xs).bind fun ys => some (y :: ys)

theorem mapO_nil (f : β → Option α) : mapO f [] = some [] := rfl
theorem mapO_cons (f : β → Option α) (x : β) (xs : List β) : mapO f (x :: xs) = (f x).bind fun y => (mapO f xs).bind fun ys => some (y :: ys) := rfl
theorem mapO_append (f : β → Option α) : ∀ a b : List β, mapO f (a ++ b) = (mapO f a).bind fun x => (mapO f b).bind fun y => some (x ++ y)
  | [], b => by cases h : mapO f b <;> simp [mapO, h]
  | x :: a, b => by
    simp only [List.cons_append, mapO, mapO_append f a b]
    cases f x <;> simp
    cases mapO f a <;> simp
    cases mapO f b <;> simp
theorem mapO_map {f : β → Option α} {g : α → β} (h : ∀ x, f (g x) = some x) : ∀ xs : List α, mapO f (xs.map g) = some xs
  | [] => rfl
  | x :: xs => by simp [mapO, h x, mapO_map h xs]

def mp (f : α → β) (xs : List α) : List β := xs.map f
theorem mp_eq (f : α → β) (xs : List α) : mp f xs = xs.map f := rfl
attribute [irreducible] mp
theorem mp_length (f : α → β) (xs : List α) : (mp f xs).length = xs.length := by rw [mp_eq, List.length_map]
theorem mp_take (f : α → β) (xs : List α) (n : Nat) : (mp f xs).take n = mp f (xs.take n) := by rw [mp_eq, mp_eq, List.map_take]
theorem mp_drop (f : α → β) (xs : List α) (n : Nat) : (mp f xs).drop n = mp f (xs.drop n) := by rw [mp_eq, mp_eq, List.map_drop]
theorem mp_isEmpty (f : α → β) (xs : List α) : (mp f xs).isEmpty = xs.isEmpty := by rw [mp_eq]; cases xs <;> rfl
theorem mapO_mp {f : β → Option α} {g : α → β} (h : ∀ x, f (g x) = some x) (xs : List α) : mapO f (mp g xs) = some xs := by rw [mp_eq]; exact mapO_map h xs

theorem bind_map' {f : α → β} {g : β → Option γ} {o : Option α} : (Option.map f o).bind g = o.bind fun x => g (f x) := by cases o <;> rfl
theorem bind_bind' {f : α → Option β} {g : β → Option γ} {o : Option α} : (o.bind f).bind g = o.bind fun x => (f x).bind g := by cases o <;> rfl
theorem bind_cond {f : α → Option β} {b : Bool} {x y : Option α} : (bif b then x else y).bind f = bif b then x.bind f else y.bind f := by cases b <;> rfl
theorem bind_none' {f : α → Option β} : (none : Option α).bind f = none := rfl
theorem bind_some' {f : α → Option β} {x : α} : (some x).bind f = f x := rfl

def idxA (xs : List α) (n : Int) : Option α := if 0 ≤ n then xs[n.toNat]? else none
theorem idxA_mp {f : α → β} {xs : List α} {n : Int} : idxA (mp f xs) n = Option.map f (idxA xs n) := by
  rw [mp_eq]; unfold idxA; split <;> simp
theorem idxA_zero {x : α} {xs : List α} : idxA (x :: xs) 0 = some x := rfl
theorem idxA_one {x y : α} {xs : List α} : idxA (x :: y :: xs) 1 = some y := rfl
theorem idxA_two {x y z : α} {xs : List α} : idxA (x :: y :: z :: xs) 2 = some z := rfl
end lists

def SubE : List AV → List AV → Prop
  | [], ys => ys = []
  | x :: xs, ys => ∃ y zs, ys = y :: zs ∧ Sub x y ∧ SubE xs zs
theorem SubE.nil : SubE [] [] := rfl
theorem SubE.cons {x y : AV} {xs ys : List AV} (h : Sub x y) (hs : SubE xs ys) : SubE (x :: xs) (y :: ys) := ⟨y, ys, rfl, h, hs⟩
theorem SubE.subL : ∀ {xs ys : List AV}, SubE xs ys → SubL xs ys
  | [], _, rfl => SubL.nil
  | _ :: _, _, ⟨_, _, rfl, h, hs⟩ => SubL.cons h (SubE.subL hs)
theorem SubE.subM : ∀ {xs ys : List AV}, SubE xs ys → SubM xs ys
  | [], _, rfl => SubM.nil
  | _ :: _, _, ⟨_, _, rfl, h, hs⟩ => SubM.cons h (SubE.subM hs)
theorem SubE.length : ∀ {xs ys : List AV}, SubE xs ys → xs.length = ys.length
  | [], _, rfl => rfl
  | _ :: _, _, ⟨_, _, rfl, _, hs⟩ => by simp [SubE.length hs]
theorem SubE.append : ∀ {xs ys us vs : List AV}, SubE xs ys → SubE us vs → SubE (xs ++ us) (ys ++ vs)
  | [], _, _, _, rfl, h => h
  | _ :: _, _, _, _, ⟨y, zs, rfl, h, hs⟩, h2 => ⟨y, zs ++ _, rfl, h, SubE.append hs h2⟩
theorem CoL1.nil {H : List AObj} {n : Nat} : CoL1 H n [] [] := rfl
theorem CoL1.cons {H : List AObj} {n : Nat} {x y : AV} {xs ys : List AV} (h : Co1 H n x y) (hs : CoL1 H n xs ys) : CoL1 H n (x :: xs) (y :: ys) := ⟨y, ys, rfl, h, hs⟩
theorem CoL1.append {H : List AObj} {n : Nat} : ∀ {xs ys us vs : List AV}, CoL1 H n xs ys → CoL1 H n us vs → CoL1 H n (xs ++ us) (ys ++ vs)
  | [], _, _, _, rfl, h => h
  | _ :: _, _, _, _, ⟨y, zs, rfl, h, hs⟩, h2 => ⟨y, zs ++ _, rfl, h, CoL1.append hs h2⟩
theorem Co1.toSub {n : Nat} {x y : AV} (h : Co1 [] n x y) : Sub x y := by
  rcases h with h | ⟨l, m, sz, rows, _, hl, _⟩
  · exact h.1
  · simp at hl
theorem CoL1.toSub {n : Nat} : ∀ {xs ys : List AV}, CoL1 [] n xs ys → SubE xs ys
  | [], _, rfl => rfl
  | _ :: _, _, ⟨y, zs, rfl, h, hs⟩ => ⟨y, zs, rfl, h.toSub, CoL1.toSub hs⟩
theorem Co.toSub {n : Nat} {x y : AV} (h : Co [] n x y) : Sub x y := by
  rcases h with h | ⟨cs, ds, rfl, rfl, h⟩
  · exact h.toSub
  · exact Sub.agg h.toSub.subL
theorem CoL1.toCoL {H : List AObj} {n : Nat} : ∀ {xs ys : List AV}, CoL1 H n xs ys → CoL H n xs ys
  | [], _, rfl => rfl
  | _ :: _, _, ⟨y, zs, rfl, h, hs⟩ => ⟨y, zs, rfl, .inl h, CoL1.toCoL hs⟩

structure Row (α : Type) where
  enc : α → List AV
  dec : List AV → Option α
  sz : Nat
  ok : ∀ r x, dec r = some x → SubE r (enc x)
  nb : ∀ n x, nbL n (enc x)

structure Ty (α : Type) where
  enc : α → AV
  dec : List AObj → AV → Option α
  ok : ∀ H n v x, dec H v = some x → Co H n v (enc x)
  nb : ∀ n x, (enc x).nb n

section rows
variable {α : Type}

def szOK (sz k : Nat) (rows : List (List AV)) : Bool := sz == k || rows.isEmpty

def dL (r : Row α) (H : List AObj) : AV → Option (List α)
  | .lst _ sz rows => bif szOK sz r.sz rows then mapO r.dec rows else none
  | .acc l n => match H[l]? with
    | some (.acc true sz rows) => bif (rows.length == n) && szOK sz r.sz rows then mapO r.dec rows else none
    | _ => none
  | _ => none

theorem mapO_rows {r : Row α} : ∀ {rows : List (List AV)} {xs : List α}, mapO r.dec rows = some xs → SubR rows (mp r.enc xs) ∧ RowsSub rows (mp r.enc xs)
  | [], xs, h => by
    simp only [mapO, Option.some.injEq] at h
    subst h
    rw [mp_eq]
    exact ⟨SubR.nil, rfl⟩
  | c :: rows, xs, h => by
    simp only [mapO, Option.bind_eq_some_iff, Option.some.injEq] at h
    obtain ⟨y, hy, ys, hys, rfl⟩ := h
    obtain ⟨h1, h2⟩ := mapO_rows hys
    have h3 := r.ok _ _ hy
    rw [mp_eq] at h1 h2 ⊢
    exact ⟨SubR.cons h3.subM h1, _, _, rfl, ⟨h3.length, h3.subL⟩, h2⟩

theorem nbR_rows {r : Row α} {n : Nat} : ∀ xs : List α, nbR n (mp r.enc xs)
  | [] => by rw [mp_eq]; trivial
  | x :: xs => by have := nbR_rows (r := r) (n := n) xs; rw [mp_eq] at this ⊢; exact ⟨r.nb n x, this⟩

theorem sub_lst_sz {t : Bool} {sz k : Nat} {rows rows' : List (List AV)} (h : szOK sz k rows = true) (hs : SubR rows rows') : Sub (.lst t sz rows) (.lst false k rows') := by
  unfold szOK at h
  simp only [Bool.or_eq_true, beq_iff_eq, List.isEmpty_iff] at h
  rcases h with rfl | rfl
  · exact Sub.lst hs
  · have : rows' = [] := List.eq_nil_of_length_eq_zero hs.1.symm
    subst this
    exact Sub.empty _ _ _

theorem dL_ok {r : Row α} {H : List AObj} {n : Nat} {v : AV} {xs : List α} (h : dL r H v = some xs) : Co1 H n v (.lst false r.sz (mp r.enc xs)) := by
  unfold dL at h
  split at h
  · rename_i t sz rows
    cases hs : szOK sz r.sz rows with
    | false => simp [hs] at h
    | true =>
      simp only [hs, cond_true] at h
      exact .inl ⟨sub_lst_sz hs (mapO_rows h).1, nbR_rows xs⟩
  · rename_i l m
    split at h
    · rename_i sz rows hl
      cases hs : szOK sz r.sz rows with
      | false => simp [hs] at h
      | true =>
        cases hm : (rows.length == m) with
        | false => simp [hm] at h
        | true =>
          simp only [hs, hm, Bool.and_self, cond_true] at h
          exact .inr ⟨l, m, sz, rows, rfl, hl, by simpa using hm, sub_lst_sz hs (mapO_rows h).1, nbR_rows xs⟩
    · cases h
  · cases h

def tyL (r : Row α) : Ty (List α) where
  enc xs := .lst false r.sz (mp r.enc xs)
  dec := dL r
  ok _ _ _ _ h := .inl (dL_ok h)
  nb _ xs := nbR_rows xs
theorem tyL_enc {r : Row α} {xs : List α} : (tyL r).enc xs = .lst false r.sz (mp r.enc xs) := rfl
theorem tyL_dec {r : Row α} {H : List AObj} {v : AV} : (tyL r).dec H v = dL r H v := rfl
end rows

def sb (s : List UInt8) : ByteArray := ⟨s.toArray⟩
abbrev Str := List UInt8

def dI (k : IntKind) : AV → Option Int
  | .int k' n => if k' = k then some n else none
  | _ => none
def dB : AV → Option Bool
  | .bool b => some b
  | _ => none
def dS : AV → Option Str
  | .str b => some b.data.toList
  | _ => none
theorem dI_ok {k : IntKind} {H : List AObj} {n : Nat} {v : AV} {x : Int} (h : dI k v = some x) : Co1 H n v (.int k x) := by
  unfold dI at h
  split at h
  · split at h
    · cases h; rename_i e; subst e; exact Co1.sub (Sub.refl _) trivial
    · cases h
  · cases h
theorem dB_ok {H : List AObj} {n : Nat} {v : AV} {x : Bool} (h : dB v = some x) : Co1 H n v (.bool x) := by
  unfold dB at h
  split at h
  · cases h; exact Co1.sub (Sub.refl _) trivial
  · cases h
theorem sb_data (b : ByteArray) : sb b.data.toList = b := by
  cases b; rfl
theorem dS_ok {H : List AObj} {n : Nat} {v : AV} {x : Str} (h : dS v = some x) : Co1 H n v (.str (sb x)) := by
  unfold dS at h
  split at h
  · cases h; rw [sb_data]; exact Co1.sub (Sub.refl _) trivial
  · cases h
theorem dS_sb (s : Str) : dS (.str (sb s)) = some s := rfl
theorem dI_int (k : IntKind) (n : Int) : dI k (.int k n) = some n := by simp [dI]
theorem dB_bool (b : Bool) : dB (.bool b) = some b := rfl
theorem dS_empty : dS (.str ByteArray.empty) = some [] := rfl
theorem dS_emptyL : dS (.str ⟨#[]⟩) = some [] := rfl

def tyI (k : IntKind) : Ty Int := ⟨.int k, fun _ => dI k, fun _ _ _ _ h => .inl (dI_ok h), fun _ _ => trivial⟩
def tyB : Ty Bool := ⟨.bool, fun _ => dB, fun _ _ _ _ h => .inl (dB_ok h), fun _ _ => trivial⟩
def tyS : Ty Str := ⟨fun s => .str (sb s), fun _ => dS, fun _ _ _ _ h => .inl (dS_ok h), fun _ _ => trivial⟩
theorem tyI_enc {k : IntKind} {x : Int} : (tyI k).enc x = .int k x := rfl
theorem tyI_dec {k : IntKind} {H : List AObj} {v : AV} : (tyI k).dec H v = dI k v := rfl
theorem tyB_enc {x : Bool} : tyB.enc x = .bool x := rfl
theorem tyB_dec {H : List AObj} {v : AV} : tyB.dec H v = dB v := rfl
theorem tyS_enc {x : Str} : tyS.enc x = .str (sb x) := rfl
theorem tyS_dec {H : List AObj} {v : AV} : tyS.dec H v = dS v := rfl

def dF (f : FuncId) : AV → Option Unit
  | .func (.func g) [] [] => if g = f then some () else none
  | _ => none
theorem dF_lit (f : FuncId) : dF f (.func (.func f) [] []) = some () := by simp [dF]
def tyF (f : FuncId) : Ty Unit where
  enc _ := .func (.func f) [] []
  dec _ := dF f
  ok H n v x h := by
    unfold dF at h
    split at h
    · split at h
      · rename_i e; subst e; exact Co.same ⟨trivial, trivial⟩
      · cases h
    · cases h
  nb _ _ := ⟨trivial, trivial⟩
theorem tyF_enc {f : FuncId} {x : Unit} : (tyF f).enc x = .func (.func f) [] [] := rfl
theorem tyF_dec {f : FuncId} {H : List AObj} {v : AV} : (tyF f).dec H v = dF f v := rfl

def icell (n : Int) : List AV := [.int .i64 n]
def scell (s : Str) : List AV := [.str (sb s)]
def bcell (b : Bool) : List AV := [.bool b]
def ucell (n : Int) : List AV := [.int .u8 n]
def dI1 (k : IntKind) : List AV → Option Int
  | [c] => dI k c
  | _ => none
def dB1 : List AV → Option Bool
  | [c] => dB c
  | _ => none
def dS1 : List AV → Option Str
  | [c] => dS c
  | _ => none
def rowI : Row Int where
  enc := icell
  dec := dI1 .i64
  sz := 1
  ok r x h := by
    unfold dI1 at h
    split at h
    · exact SubE.cons (dI_ok (H := []) (n := 0) h).toSub SubE.nil
    · cases h
  nb _ _ := ⟨trivial, trivial⟩
def rowU : Row Int where
  enc := ucell
  dec := dI1 .u8
  sz := 1
  ok r x h := by
    unfold dI1 at h
    split at h
    · exact SubE.cons (dI_ok (H := []) (n := 0) h).toSub SubE.nil
    · cases h
  nb _ _ := ⟨trivial, trivial⟩
def rowB : Row Bool where
  enc := bcell
  dec := dB1
  sz := 1
  ok r x h := by
    unfold dB1 at h
    split at h
    · exact SubE.cons (dB_ok (H := []) (n := 0) h).toSub SubE.nil
    · cases h
  nb _ _ := ⟨trivial, trivial⟩
def rowS : Row Str where
  enc := scell
  dec := dS1
  sz := 1
  ok r x h := by
    unfold dS1 at h
    split at h
    · exact SubE.cons (dS_ok (H := []) (n := 0) h).toSub SubE.nil
    · cases h
  nb _ _ := ⟨trivial, trivial⟩
theorem rowI_f : rowI.enc = icell ∧ rowI.dec = dI1 .i64 ∧ rowI.sz = 1 := ⟨rfl, rfl, rfl⟩
theorem rowU_f : rowU.enc = ucell ∧ rowU.dec = dI1 .u8 ∧ rowU.sz = 1 := ⟨rfl, rfl, rfl⟩
theorem rowB_f : rowB.enc = bcell ∧ rowB.dec = dB1 ∧ rowB.sz = 1 := ⟨rfl, rfl, rfl⟩
theorem rowS_f : rowS.enc = scell ∧ rowS.dec = dS1 ∧ rowS.sz = 1 := ⟨rfl, rfl, rfl⟩
theorem mapO_cells1 : (∀ xs : List Int, mapO (dI1 .i64) (mp icell xs) = some xs) ∧ (∀ xs : List Int, mapO (dI1 .u8) (mp ucell xs) = some xs) ∧ (∀ xs : List Bool, mapO dB1 (mp bcell xs) = some xs) ∧ ∀ xs : List Str, mapO dS1 (mp scell xs) = some xs :=
  ⟨mapO_mp fun x => by simp [dI1, icell, dI], mapO_mp fun x => by simp [dI1, ucell, dI], mapO_mp fun x => rfl, mapO_mp fun x => rfl⟩

structure Cel (α : Type) where
  enc : α → List AV
  dec : List AObj → List AV → Option α
  ok : ∀ H n cs x, dec H cs = some x → CoL1 H n cs (enc x)
  nb : ∀ n x, nbL n (enc x)

section cel
variable {α : Type}
def dC (c : Cel α) (H : List AObj) : AV → Option α
  | .agg cs => c.dec H cs
  | _ => none
def tyC (c : Cel α) : Ty α where
  enc x := .agg (c.enc x)
  dec := dC c
  ok H n v x h := by
    unfold dC at h
    split at h
    · exact .inr ⟨_, _, rfl, rfl, c.ok H n _ _ h⟩
    · cases h
  nb n x := c.nb n x
theorem tyC_enc {c : Cel α} {x : α} : (tyC c).enc x = .agg (c.enc x) := rfl
theorem tyC_dec {c : Cel α} {H : List AObj} {v : AV} : (tyC c).dec H v = dC c H v := rfl
end cel

def tyU : Ty Unit where
  enc _ := .tup []
  dec _
    | .tup [] => some ()
    | _ => none
  ok H n v x h := by
    split at h
    · exact Co.same trivial
    · cases h
  nb _ _ := trivial
theorem tyU_enc {x : Unit} : tyU.enc x = .tup [] := rfl
theorem tyU_dec {H : List AObj} : tyU.dec H (.tup []) = some () := rfl

section tuples
variable {α β γ δ ε : Type}
def d2 (a : Ty α) (b : Ty β) : AV → Option (α × β)
  | .tup [x, y] => (a.dec [] x).bind fun u => (b.dec [] y).bind fun v => some (u, v)
  | _ => none
def d3 (a : Ty α) (b : Ty β) (c : Ty γ) : AV → Option (α × β × γ)
  | .tup [x, y, z] => (a.dec [] x).bind fun u => (b.dec [] y).bind fun v => (c.dec [] z).bind fun w => some (u, v, w)
  | _ => none
def d4 (a : Ty α) (b : Ty β) (c : Ty γ) (d : Ty δ) : AV → Option (α × β × γ × δ)
  | .tup [x, y, z, p] => (a.dec [] x).bind fun u => (b.dec [] y).bind fun v => (c.dec [] z).bind fun w => (d.dec [] p).bind fun q => some (u, v, w, q)
  | _ => none
def d5 (a : Ty α) (b : Ty β) (c : Ty γ) (d : Ty δ) (e : Ty ε) : AV → Option (α × β × γ × δ × ε)
  | .tup [x, y, z, p, s] => (a.dec [] x).bind fun u => (b.dec [] y).bind fun v => (c.dec [] z).bind fun w => (d.dec [] p).bind fun q => (e.dec [] s).bind fun t => some (u, v, w, q, t)
  | _ => none
def ty2 (a : Ty α) (b : Ty β) : Ty (α × β) where
  enc x := .tup [a.enc x.1, b.enc x.2]
  dec _ := d2 a b
  ok H n v x h := by
    unfold d2 at h
    split at h
    · simp only [Option.bind_eq_some_iff, Option.some.injEq] at h
      obtain ⟨u, hu, w, hw, rfl⟩ := h
      exact Co.sub (Sub.tup (SubL.cons (a.ok [] 0 _ _ hu).toSub (SubL.cons (b.ok [] 0 _ _ hw).toSub SubL.nil))) ⟨a.nb n u, b.nb n w, trivial⟩
    · cases h
  nb n x := ⟨a.nb n _, b.nb n _, trivial⟩
def ty3 (a : Ty α) (b : Ty β) (c : Ty γ) : Ty (α × β × γ) where
  enc x := .tup [a.enc x.1, b.enc x.2.1, c.enc x.2.2]
  dec _ := d3 a b c
  ok H n v x h := by
    unfold d3 at h
    split at h
    · simp only [Option.bind_eq_some_iff, Option.some.injEq] at h
      obtain ⟨u, hu, w, hw, p, hp, rfl⟩ := h
      exact Co.sub (Sub.tup (SubL.cons (a.ok [] 0 _ _ hu).toSub (SubL.cons (b.ok [] 0 _ _ hw).toSub (SubL.cons (c.ok [] 0 _ _ hp).toSub SubL.nil)))) ⟨a.nb n u, b.nb n w, c.nb n p, trivial⟩
    · cases h
  nb n x := ⟨a.nb n _, b.nb n _, c.nb n _, trivial⟩
def ty4 (a : Ty α) (b : Ty β) (c : Ty γ) (d : Ty δ) : Ty (α × β × γ × δ) where
  enc x := .tup [a.enc x.1, b.enc x.2.1, c.enc x.2.2.1, d.enc x.2.2.2]
  dec _ := d4 a b c d
  ok H n v x h := by
    unfold d4 at h
    split at h
    · simp only [Option.bind_eq_some_iff, Option.some.injEq] at h
      obtain ⟨u, hu, w, hw, p, hp, q, hq, rfl⟩ := h
      exact Co.sub (Sub.tup (SubL.cons (a.ok [] 0 _ _ hu).toSub (SubL.cons (b.ok [] 0 _ _ hw).toSub (SubL.cons (c.ok [] 0 _ _ hp).toSub (SubL.cons (d.ok [] 0 _ _ hq).toSub SubL.nil))))) ⟨a.nb n u, b.nb n w, c.nb n p, d.nb n q, trivial⟩
    · cases h
  nb n x := ⟨a.nb n _, b.nb n _, c.nb n _, d.nb n _, trivial⟩
def ty5 (a : Ty α) (b : Ty β) (c : Ty γ) (d : Ty δ) (e : Ty ε) : Ty (α × β × γ × δ × ε) where
  enc x := .tup [a.enc x.1, b.enc x.2.1, c.enc x.2.2.1, d.enc x.2.2.2.1, e.enc x.2.2.2.2]
  dec _ := d5 a b c d e
  ok H n v x h := by
    unfold d5 at h
    split at h
    · simp only [Option.bind_eq_some_iff, Option.some.injEq] at h
      obtain ⟨u, hu, w, hw, p, hp, q, hq, s, hs, rfl⟩ := h
      exact Co.sub (Sub.tup (SubL.cons (a.ok [] 0 _ _ hu).toSub (SubL.cons (b.ok [] 0 _ _ hw).toSub (SubL.cons (c.ok [] 0 _ _ hp).toSub (SubL.cons (d.ok [] 0 _ _ hq).toSub (SubL.cons (e.ok [] 0 _ _ hs).toSub SubL.nil)))))) ⟨a.nb n u, b.nb n w, c.nb n p, d.nb n q, e.nb n s, trivial⟩
    · cases h
  nb n x := ⟨a.nb n _, b.nb n _, c.nb n _, d.nb n _, e.nb n _, trivial⟩
theorem ty2_enc {a : Ty α} {b : Ty β} {x : α × β} : (ty2 a b).enc x = .tup [a.enc x.1, b.enc x.2] := rfl
theorem ty2_dec {a : Ty α} {b : Ty β} {H : List AObj} {v : AV} : (ty2 a b).dec H v = d2 a b v := rfl
theorem ty3_enc {a : Ty α} {b : Ty β} {c : Ty γ} {x : α × β × γ} : (ty3 a b c).enc x = .tup [a.enc x.1, b.enc x.2.1, c.enc x.2.2] := rfl
theorem ty3_dec {a : Ty α} {b : Ty β} {c : Ty γ} {H : List AObj} {v : AV} : (ty3 a b c).dec H v = d3 a b c v := rfl
theorem ty4_enc {a : Ty α} {b : Ty β} {c : Ty γ} {d : Ty δ} {x : α × β × γ × δ} : (ty4 a b c d).enc x = .tup [a.enc x.1, b.enc x.2.1, c.enc x.2.2.1, d.enc x.2.2.2] := rfl
theorem ty4_dec {a : Ty α} {b : Ty β} {c : Ty γ} {d : Ty δ} {H : List AObj} {v : AV} : (ty4 a b c d).dec H v = d4 a b c d v := rfl
theorem ty5_enc {a : Ty α} {b : Ty β} {c : Ty γ} {d : Ty δ} {e : Ty ε} {x : α × β × γ × δ × ε} : (ty5 a b c d e).enc x = .tup [a.enc x.1, b.enc x.2.1, c.enc x.2.2.1, d.enc x.2.2.2.1, e.enc x.2.2.2.2] := rfl
theorem ty5_dec {a : Ty α} {b : Ty β} {c : Ty γ} {d : Ty δ} {e : Ty ε} {H : List AObj} {v : AV} : (ty5 a b c d e).dec H v = d5 a b c d e v := rfl
end tuples

noncomputable def outR {ρ : Type} (P : Program) (rs : List ResultVar) (t : Ty ρ) (σ : AState) : Option ρ :=
  (resAV P σ rs).bind fun x => pcond ((frz 0 σ.heap x).nb 0) (t.dec [] (frz 0 σ.heap x))

theorem outR_ok {ρ : Type} {P : Program} {rs : List ResultVar} {t : Ty ρ} {σ : AState} {r : ρ} (h : outR P rs t σ = some r) : endV (fun v => v = t.enc r) σ.heap (resAV P σ rs) := by
  unfold outR at h
  cases hx : resAV P σ rs with
  | none => rw [hx] at h; cases h
  | some x =>
    rw [hx] at h
    simp only [Option.bind_some] at h
    rw [pcond_some] at h
    exact ⟨h.1, _, (t.ok [] 0 _ _ h.2).toSub, rfl⟩

-- what callees answer
abbrev Ent := List AV → List AObj → Option (AV × List AObj)
abbrev EntD := List AV → Option AV

section entries
variable {α β γ δ ε ζ ρ : Type}
def ent0 (t : Ty ρ) (F : Option ρ) : Ent
  | [], H => F.bind fun r => some (t.enc r, H)
  | _, _ => none
def ent1 (a : Ty α) (t : Ty ρ) (F : α → Option ρ) : Ent
  | [x], H => (a.dec H x).bind fun x => (F x).bind fun r => some (t.enc r, H)
  | _, _ => none
def ent2 (a : Ty α) (b : Ty β) (t : Ty ρ) (F : α → β → Option ρ) : Ent
  | [x, y], H => (a.dec H x).bind fun x => (b.dec H y).bind fun y => (F x y).bind fun r => some (t.enc r, H)
  | _, _ => none
def ent3 (a : Ty α) (b : Ty β) (c : Ty γ) (t : Ty ρ) (F : α → β → γ → Option ρ) : Ent
  | [x, y, z], H => (a.dec H x).bind fun x => (b.dec H y).bind fun y => (c.dec H z).bind fun z => (F x y z).bind fun r => some (t.enc r, H)
  | _, _ => none
def ent4 (a : Ty α) (b : Ty β) (c : Ty γ) (d : Ty δ) (t : Ty ρ) (F : α → β → γ → δ → Option ρ) : Ent
  | [x, y, z, u], H => (a.dec H x).bind fun x => (b.dec H y).bind fun y => (c.dec H z).bind fun z => (d.dec H u).bind fun u => (F x y z u).bind fun r => some (t.enc r, H)
  | _, _ => none
def ent5 (a : Ty α) (b : Ty β) (c : Ty γ) (d : Ty δ) (e : Ty ε) (t : Ty ρ) (F : α → β → γ → δ → ε → Option ρ) : Ent
  | [x, y, z, u, v], H => (a.dec H x).bind fun x => (b.dec H y).bind fun y => (c.dec H z).bind fun z => (d.dec H u).bind fun u => (e.dec H v).bind fun v => (F x y z u v).bind fun r => some (t.enc r, H)
  | _, _ => none
def ent6 (a : Ty α) (b : Ty β) (c : Ty γ) (d : Ty δ) (e : Ty ε) (f : Ty ζ) (t : Ty ρ) (F : α → β → γ → δ → ε → ζ → Option ρ) : Ent
  | [x, y, z, u, v, w], H => (a.dec H x).bind fun x => (b.dec H y).bind fun y => (c.dec H z).bind fun z => (d.dec H u).bind fun u => (e.dec H v).bind fun v => (f.dec H w).bind fun w => (F x y z u v w).bind fun r => some (t.enc r, H)
  | _, _ => none
noncomputable def entD (e : Ent) : EntD := fun args => pcond (nbL 0 args) ((e args []).bind fun r => some r.1)

def EntOK (P : Program) (f : FuncId) (e : Ent) : Prop := ∀ args σ r H', e args σ.heap = some (r, H') → CallA P f args σ (fun o H'' => o = .ret r ∧ H'' = H')
def EntDOK (P : Program) (f : FuncId) (e : EntD) : Prop := ∀ args r, e args = some r → FnC P f args (fun v => v = r)

variable {P : Program} {f : FuncId} {a : Ty α} {b : Ty β} {c : Ty γ} {d : Ty δ} {e : Ty ε} {g : Ty ζ} {t : Ty ρ}

theorem ent0_ok {F : Option ρ} (h : ∀ r, F = some r → FnC P f [] (fun v => v = t.enc r)) : EntOK P f (ent0 t F) := by
  intro args σ r H' he
  unfold ent0 at he
  split at he
  · simp only [Option.bind_eq_some_iff, Option.some.injEq, Prod.mk.injEq] at he
    obtain ⟨r', hr, rfl, rfl⟩ := he
    exact callA_co (n := 0) (h r' hr) CoL.nil
  · cases he
theorem ent1_ok {F : α → Option ρ} (h : ∀ x r, F x = some r → FnC P f [a.enc x] (fun v => v = t.enc r)) : EntOK P f (ent1 a t F) := by
  intro args σ r H' he
  unfold ent1 at he
  split at he
  · simp only [Option.bind_eq_some_iff, Option.some.injEq, Prod.mk.injEq] at he
    obtain ⟨x, hx, r', hr, rfl, rfl⟩ := he
    exact callA_co (n := 0) (h x r' hr) (CoL.cons (a.ok _ 0 _ _ hx) CoL.nil)
  · cases he
theorem ent2_ok {F : α → β → Option ρ} (h : ∀ x y r, F x y = some r → FnC P f [a.enc x, b.enc y] (fun v => v = t.enc r)) : EntOK P f (ent2 a b t F) := by
  intro args σ r H' he
  unfold ent2 at he
  split at he
  · simp only [Option.bind_eq_some_iff, Option.some.injEq, Prod.mk.injEq] at he
    obtain ⟨x, hx, y, hy, r', hr, rfl, rfl⟩ := he
    exact callA_co (n := 0) (h x y r' hr) (CoL.cons (a.ok _ 0 _ _ hx) (CoL.cons (b.ok _ 0 _ _ hy) CoL.nil))
  · cases he
theorem ent3_ok {F : α → β → γ → Option ρ} (h : ∀ x y z r, F x y z = some r → FnC P f [a.enc x, b.enc y, c.enc z] (fun v => v = t.enc r)) : EntOK P f (ent3 a b c t F) := by
  intro args σ r H' he
  unfold ent3 at he
  split at he
  · simp only [Option.bind_eq_some_iff, Option.some.injEq, Prod.mk.injEq] at he
    obtain ⟨x, hx, y, hy, z, hz, r', hr, rfl, rfl⟩ := he
    exact callA_co (n := 0) (h x y z r' hr) (CoL.cons (a.ok _ 0 _ _ hx) (CoL.cons (b.ok _ 0 _ _ hy) (CoL.cons (c.ok _ 0 _ _ hz) CoL.nil)))
  · cases he
theorem ent2_okD {F : α → β → Option ρ} (h : ∀ x y r, F x y = some r → FnC P f [a.enc x, b.enc y] (fun w => w = t.enc r)) : EntDOK P f (entD (ent2 a b t F)) := by
  intro args r he
  unfold entD at he
  rw [pcond_some] at he
  obtain ⟨hnb, he⟩ := he
  unfold ent2 at he
  split at he
  · simp only [Option.bind_eq_some_iff, Option.some.injEq, Prod.exists, Prod.mk.injEq] at he
    obtain ⟨_, _, ⟨x, hx, y, hy, r', hr, rfl, rfl⟩, rfl⟩ := he
    exact fnC_sub (h x y r' hr) (SubL.cons (a.ok _ 0 _ _ hx).toSub (SubL.cons (b.ok _ 0 _ _ hy).toSub SubL.nil)) hnb
  · cases he
end entries

def tabA : List (Nat × Ent) → FuncId → List AV → List AObj → Option (AV × List AObj)
  | [], _, _, _ => none
  | (g, e) :: t, f, args, H => if f = g then e args H else tabA t f args H
def tabD : List (Nat × EntD) → FuncId → List AV → Option AV
  | [], _, _ => none
  | (g, e) :: t, f, args => if f = g then e args else tabD t f args
theorem tabA_nil_ok {P : Program} : ∀ f args (σ : AState) r H', tabA [] f args σ.heap = some (r, H') → CallA P f args σ (fun o H'' => o = .ret r ∧ H'' = H') := by
  intro f args σ r H' h; cases h
theorem tabA_cons_ok {P : Program} {g : Nat} {e : Ent} {t : List (Nat × Ent)} (h1 : EntOK P g e) (h2 : ∀ f args (σ : AState) r H', tabA t f args σ.heap = some (r, H') → CallA P f args σ (fun o H'' => o = .ret r ∧ H'' = H')) :
    ∀ f args (σ : AState) r H', tabA ((g, e) :: t) f args σ.heap = some (r, H') → CallA P f args σ (fun o H'' => o = .ret r ∧ H'' = H') := by
  intro f args σ r H' h
  simp only [tabA] at h
  split at h
  · rename_i hg; subst hg; exact h1 _ _ _ _ h
  · exact h2 _ _ _ _ _ h
theorem tabD_nil_ok {P : Program} : ∀ f args r, tabD [] f args = some r → FnC P f args (fun v => v = r) := by
  intro f args r h; cases h
theorem tabD_cons_ok {P : Program} {g : Nat} {e : EntD} {t : List (Nat × EntD)} (h1 : EntDOK P g e) (h2 : ∀ f args r, tabD t f args = some r → FnC P f args (fun v => v = r)) :
    ∀ f args r, tabD ((g, e) :: t) f args = some r → FnC P f args (fun v => v = r) := by
  intro f args r h
  simp only [tabD] at h
  split at h
  · rename_i hg; subst hg; exact h1 _ _ h
  · exact h2 _ _ _ h

-- canonical forms
structure NZ where
  f : List AObj → Nat → AV → Option AV
  ok : ∀ H n v v', f H n v = some v' → Co H n v v'
structure ZO where
  f : List AObj → Nat → AObj → Option AObj
  ok : ∀ H n x y, f H n x = some y → CoObj H n x y

def zA : NZ := ⟨fun _ _ _ => some .any, fun _ _ _ _ h => by cases h; exact Co.any⟩
noncomputable def zK : NZ := ⟨fun _ n v => pcond (v.nb n) (some v), fun _ _ _ _ h => by rw [pcond_some] at h; obtain ⟨h1, h2⟩ := h; cases h2; exact Co.same h1⟩
def zT {α : Type} (t : Ty α) : NZ := ⟨fun H _ v => (t.dec H v).bind fun x => some (t.enc x), fun H n v v' h => by
  simp only [Option.bind_eq_some_iff, Option.some.injEq] at h
  obtain ⟨x, hx, rfl⟩ := h
  exact t.ok H n v x hx⟩
theorem sub_lst_true {sz : Nat} {rows rows' : List (List AV)} (hs : SubR rows rows') : Sub (.lst true sz rows) (.lst true sz rows') := by
  rintro E v ⟨base, cap, hv, h1, h2, h3, h4, h5⟩
  refine ⟨base, cap, by rw [← hs.1]; exact hv, by rw [← hs.1]; exact h1, fun _ => by rw [← hs.1]; exact h2 rfl, h3, fun a ha hne => h4 a ha ?_, fun a ha => hs.2 E sz _ _ (h5 a ha)⟩
  rintro rfl
  exact hne (List.eq_nil_of_length_eq_zero hs.1.symm)
def dLt {α : Type} (r : Row α) : AV → Option (List α)
  | .lst true sz rows => bif sz == r.sz then mapO r.dec rows else none
  | _ => none
def zL {α : Type} (r : Row α) : NZ := ⟨fun _ _ v => (dLt r v).bind fun x => some (.lst true r.sz (mp r.enc x)), fun H n v v' h => by
  simp only [Option.bind_eq_some_iff, Option.some.injEq] at h
  obtain ⟨x, hx, rfl⟩ := h
  unfold dLt at hx
  split at hx
  · rename_i sz rows
    cases hz : (sz == r.sz) with
    | false => rw [hz] at hx; cases hx
    | true =>
      rw [hz, cond_true] at hx
      obtain rfl := beq_iff_eq.1 hz
      exact .inl (.inl ⟨sub_lst_true (mapO_rows hx).1, nbR_rows x⟩)
  · cases hx⟩
theorem zL_f {α : Type} {r : Row α} {H : List AObj} {n : Nat} {v : AV} : (zL r).f H n v = (dLt r v).bind fun x => some (.lst true r.sz (mp r.enc x)) := rfl
theorem zA_f {H : List AObj} {n : Nat} {v : AV} : zA.f H n v = some .any := rfl
theorem zK_f {H : List AObj} {n : Nat} {v : AV} : zK.f H n v = pcond (v.nb n) (some v) := rfl
theorem zT_f {α : Type} {t : Ty α} {H : List AObj} {n : Nat} {v : AV} : (zT t).f H n v = (t.dec H v).bind fun x => some (t.enc x) := rfl

def zipZ : List NZ → List AObj → Nat → List AV → Option (List AV)
  | [], _, _, [] => some []
  | z :: zs, H, n, v :: vs => (z.f H n v).bind fun u => (zipZ zs H n vs).bind fun us => some (u :: us)
  | _, _, _, _ => none
theorem zipZ_ok : ∀ {zs : List NZ} {H : List AObj} {n : Nat} {vs us : List AV}, zipZ zs H n vs = some us → CoL H n vs us
  | [], _, _, [], us, h => by simp only [zipZ, Option.some.injEq] at h; subst h; rfl
  | z :: zs, H, n, v :: vs, us, h => by
    simp only [zipZ, Option.bind_eq_some_iff, Option.some.injEq] at h
    obtain ⟨u, hu, ws, hws, rfl⟩ := h
    exact CoL.cons (z.ok _ _ _ _ hu) (zipZ_ok hws)
  | [], _, _, _ :: _, _, h => by simp [zipZ] at h
  | _ :: _, _, _, [], _, h => by simp [zipZ] at h

def oD : ZO := ⟨fun _ _ _ => some .dead, fun _ _ _ _ h => by cases h; exact .inl rfl⟩
noncomputable def oK : ZO := ⟨fun _ n x => pcond (objNb n x) (some x), fun _ _ _ _ h => by rw [pcond_some] at h; obtain ⟨h1, h2⟩ := h; cases h2; exact .inr (.inl ⟨rfl, h1⟩)⟩
def oCf (zs : List NZ) (H : List AObj) (n : Nat) : AObj → Option AObj
  | .cells cs => (zipZ zs H n cs).bind fun ds => some (.cells ds)
  | _ => none
def oC (zs : List NZ) : ZO := ⟨oCf zs, fun H n x y h => by
  unfold oCf at h
  split at h
  · simp only [Option.bind_eq_some_iff, Option.some.injEq] at h
    obtain ⟨ds, hd, rfl⟩ := h
    exact .inr (.inr (.inl ⟨_, _, rfl, rfl, zipZ_ok hd⟩))
  · cases h⟩
def oTf {α : Type} (c : Cel α) (H : List AObj) : AObj → Option AObj
  | .cells cs => (c.dec H cs).bind fun x => some (.cells (c.enc x))
  | _ => none
def oT {α : Type} (c : Cel α) : ZO := ⟨fun H _ => oTf c H, fun H n x y h => by
  unfold oTf at h
  split at h
  · simp only [Option.bind_eq_some_iff, Option.some.injEq] at h
    obtain ⟨z, hz, rfl⟩ := h
    exact .inr (.inr (.inl ⟨_, _, rfl, rfl, (c.ok H n _ _ hz).toCoL⟩))
  · cases h⟩
def oAf {α : Type} (r : Row α) : AObj → Option AObj
  | .acc imm sz rows => (mapO r.dec rows).bind fun xs => some (.acc imm sz (mp r.enc xs))
  | _ => none
def oA {α : Type} (r : Row α) : ZO := ⟨fun _ _ => oAf r, fun H n x y h => by
  unfold oAf at h
  split at h
  · simp only [Option.bind_eq_some_iff, Option.some.injEq] at h
    obtain ⟨xs, hx, rfl⟩ := h
    exact .inr (.inr (.inr (.inl ⟨_, _, _, _, rfl, rfl, (mapO_rows hx).2, nbR_rows xs⟩)))
  · cases h⟩
theorem oD_f {H : List AObj} {n : Nat} {x : AObj} : oD.f H n x = some .dead := rfl
theorem oK_f {H : List AObj} {n : Nat} {x : AObj} : oK.f H n x = pcond (objNb n x) (some x) := rfl
theorem oC_f {zs : List NZ} {H : List AObj} {n : Nat} {cs : List AV} : (oC zs).f H n (.cells cs) = (zipZ zs H n cs).bind fun ds => some (.cells ds) := rfl
theorem oT_f {α : Type} {c : Cel α} {H : List AObj} {n : Nat} {cs : List AV} : (oT c).f H n (.cells cs) = (c.dec H cs).bind fun x => some (.cells (c.enc x)) := rfl
theorem oA_f {α : Type} {r : Row α} {H : List AObj} {n : Nat} {imm : Bool} {sz : Nat} {rows : List (List AV)} : (oA r).f H n (.acc imm sz rows) = (mapO r.dec rows).bind fun xs => some (.acc imm sz (mp r.enc xs)) := rfl

def zipO : List ZO → List AObj → Nat → List AObj → Option (List AObj)
  | [], _, _, _ => some []
  | z :: zs, H, n, v :: vs => (z.f H n v).bind fun u => (zipO zs H n vs).bind fun us => some (u :: us)
  | _ :: _, _, _, [] => none
theorem zipO_ok : ∀ {zs : List ZO} {H : List AObj} {n : Nat} {vs us : List AObj}, zipO zs H n vs = some us → CoH H n vs us ∧ us.length = zs.length
  | [], _, _, vs, us, h => by simp only [zipO, Option.some.injEq] at h; subst h; exact ⟨CoH.nil, rfl⟩
  | z :: zs, H, n, v :: vs, us, h => by
    simp only [zipO, Option.bind_eq_some_iff, Option.some.injEq] at h
    obtain ⟨u, hu, ws, hws, rfl⟩ := h
    obtain ⟨h1, h2⟩ := zipO_ok hws
    exact ⟨⟨z.ok _ _ _ _ hu, h1⟩, by simp [h2]⟩
  | _ :: _, _, _, [], _, h => by simp [zipO] at h

def nrmZ (zs : List NZ) (zo : List ZO) (σ : AState) : Option AState :=
  (zipZ zs σ.heap zo.length σ.slots).bind fun ss => (zipO zo σ.heap zo.length σ.heap).bind fun hs => bif decide (σ.low ≤ zo.length) then some ⟨ss, hs, σ.low⟩ else none
theorem nrmZ_ok {zs : List NZ} {zo : List ZO} {σ σ' : AState} (h : nrmZ zs zo σ = some σ') : Imp σ σ' := by
  unfold nrmZ at h
  simp only [Option.bind_eq_some_iff] at h
  obtain ⟨ss, h1, hs, h2, h3⟩ := h
  cases hl : decide (σ.low ≤ zo.length) with
  | false => simp [hl] at h3
  | true =>
    simp only [hl, cond_true, Option.some.injEq] at h3
    subst h3
    obtain ⟨h4, h5⟩ := zipO_ok h2
    have hle : σ.low ≤ hs.length := by rw [h5]; exact of_decide_eq_true hl
    refine Weak.imp ⟨⟨rfl, hle⟩, ?_, ?_⟩
    · show CoL σ.heap hs.length σ.slots ss
      rw [h5]; exact zipZ_ok h1
    · show CoH σ.heap hs.length σ.heap hs
      rw [h5]; exact h4

def gSlot (i sz : Nat) (imm : Bool) (σ : AState) : AState :=
  match σ.slots[i]? with
  | some (.lst true _ []) => { slots := σ.slots.set i (.acc σ.heap.length 0), heap := σ.heap ++ [.acc imm sz []], low := σ.low }
  | _ => σ
theorem gSlot_ok {i sz : Nat} {imm : Bool} {σ : AState} : Imp σ (gSlot i sz imm σ) := by
  unfold gSlot
  split
  · rename_i s h
    exact ghostAcc h
  · exact Imp.refl σ
end Go.Abs
namespace Go.Abs

section ghost
variable {C : Ctx} {φ : Nat → Value} {σ : AState} {a : Act} {w : World}

theorem muts_cells {cs ds : List AV} {h : Value} {b o : Nat} : (AObj.cells cs).muts h b o → (AObj.cells ds).muts h b o := by
  intro hm
  cases h with
  | pointer p => cases p <;> exact hm
  | _ => exact hm
theorem block_cells {cs ds : List AV} {h : Value} {b : Nat} : (AObj.cells cs).block h b → (AObj.cells ds).block h b := by
  intro hm
  cases h with
  | pointer p => cases p <;> exact hm
  | _ => exact hm

theorem set_get {H : List AObj} {l : Nat} {cs ds : List AV} (hl : H[l]? = some (.cells cs)) {k : Nat} {x : AObj} (hx : (H.set l (.cells ds))[k]? = some x) : (k = l ∧ x = .cells ds) ∨ (k ≠ l ∧ H[k]? = some x) := by
  by_cases e : k = l
  · subst e
    have hlt : k < H.length := (List.getElem?_eq_some_iff.1 hl).1
    rw [List.getElem?_set_self hlt] at hx
    cases hx; exact .inl ⟨rfl, rfl⟩
  · rw [List.getElem?_set_ne (fun h => e h.symm)] at hx
    exact .inr ⟨e, hx⟩

theorem recell_env {l : Nat} {cs ds : List AV} (hl : σ.heap[l]? = some (.cells cs)) : C.env φ (σ.heap.set l (.cells ds)) w = C.env φ σ.heap w := by
  have hlt : l < σ.heap.length := (List.getElem?_eq_some_iff.1 hl).1
  have hmu : ∀ b o, Mut φ (σ.heap.set l (.cells ds)) b o ↔ Mut φ σ.heap b o := by
    intro b o
    constructor
    · rintro ⟨k, x, hx, hm⟩
      rcases set_get hl hx with ⟨rfl, rfl⟩ | ⟨_, hx⟩
      · exact ⟨k, _, hl, muts_cells hm⟩
      · exact ⟨k, x, hx, hm⟩
    · rintro ⟨k, x, hx, hm⟩
      by_cases e : k = l
      · subst e
        rw [hl] at hx; cases hx
        exact ⟨k, _, List.getElem?_set_self hlt, muts_cells hm⟩
      · exact ⟨k, x, by rw [List.getElem?_set_ne (fun h => e h.symm)]; exact hx, hm⟩
  unfold Ctx.env
  congr 1
  · funext b o
    exact propext (or_congr (hmu b o) Iff.rfl)
  · funext k
    by_cases e : k = l
    · subst e; rw [List.getElem?_set_self hlt, hl]; rfl
    · rw [List.getElem?_set_ne (fun h => e h.symm)]
  · exact List.length_set

theorem Sim.recell (S : Sim C φ σ a w) {l : Nat} {cs ds : List AV} (hl : σ.heap[l]? = some (.cells cs)) (h : ∀ b c t, φ l = .pointer (some ⟨b, 0, none⟩) → w.heap[b]? = some (.cells c t (0, 0)) → RepL (C.env φ σ.heap w) cs c.toList → RepL (C.env φ σ.heap w) ds c.toList) :
    Sim C φ { σ with heap := σ.heap.set l (.cells ds) } a w := by
  have hlt : l < σ.heap.length := (List.getElem?_eq_some_iff.1 hl).1
  have henv : C.env φ (σ.heap.set l (.cells ds)) w = C.env φ σ.heap w := recell_env hl
  have hdef : DefOK C φ (σ.heap.set l (.cells ds)) w a.defers := S.defers.step (fun _ _ _ => rfl) (fun k x b hx hb => by
    rcases set_get hl hx with ⟨rfl, rfl⟩ | ⟨_, hx⟩
    · exact .inl ⟨k, _, hl, block_cells hb⟩
    · exact .inl ⟨k, x, hx, hb⟩)
  refine { slots := ?_, defers := hdef, objs := ?_, apart := ?_, notA := ?_, size := S.size, old := S.old, oldObj := S.oldObj, inM := ?_, froz := S.froz, rest := S.rest, low := ⟨S.low.1, by show σ.low ≤ (σ.heap.set l (.cells ds)).length; rw [List.length_set]; exact S.low.2⟩, names := ?_ }
  · show RepL (C.env φ (σ.heap.set l (.cells ds)) w) σ.slots a.tmps.toList
    rw [henv]; exact S.slots
  · intro k x hx
    show ObjRep (C.env φ (σ.heap.set l (.cells ds)) w) x (φ k)
    rw [henv]
    rcases set_get hl hx with ⟨rfl, rfl⟩ | ⟨_, hx⟩
    · obtain ⟨b, c, t, h1, h2, h3, h4⟩ := S.objs k _ hl
      exact ⟨b, c, t, h1, h2, h b c t h1 h2 h3, h4⟩
    · exact S.objs k x hx
  · intro k k' x x' b hx hx' hb hb'
    rcases set_get hl hx with ⟨e1, rfl⟩ | ⟨_, h2⟩ <;> rcases set_get hl hx' with ⟨e2, rfl⟩ | ⟨_, h3⟩
    · rw [e1, e2]
    · rw [e1] at hb ⊢; exact S.apart _ _ _ _ b hl h3 (block_cells hb) hb'
    · rw [e2] at hb' ⊢; exact S.apart _ _ _ _ b h2 hl hb (block_cells hb')
    · exact S.apart _ _ _ _ b h2 h3 hb hb'
  · intro k x b o hx hb
    rcases set_get hl hx with ⟨rfl, rfl⟩ | ⟨_, hx⟩
    · exact S.notA _ _ b o hl (block_cells hb)
    · exact S.notA _ _ b o hx hb
  · intro k x b o hx hm hb
    rcases set_get hl hx with ⟨rfl, rfl⟩ | ⟨_, hx⟩
    · exact S.inM _ _ b o hl (muts_cells hm) hb
    · exact S.inM _ _ b o hx hm hb
  · intro k hk
    have := S.names k hk
    show (φ k = _ ∧ (accLen (σ.heap.set l (.cells ds))[k]? = _ ∨ accLen (σ.heap.set l (.cells ds))[k]? = none)) ∨ ((∃ q, _ ∧ ∀ k', accLen (σ.heap.set l (.cells ds))[k]? = some k' → q < k') ∧ _)
    have e : accLen (σ.heap.set l (.cells ds))[k]? = accLen σ.heap[k]? := by
      by_cases e : k = l
      · subst e; rw [List.getElem?_set_self hlt, hl]; rfl
      · rw [List.getElem?_set_ne (fun h => e h.symm)]
    rw [e]; exact this

theorem ghostCell {l off s sz : Nat} {cs : List AV} (hl : σ.heap[l]? = some (.cells cs)) (hc : cs[off]? = some (.lst true s [])) :
    Imp σ { slots := σ.slots, heap := σ.heap.set l (.cells (cs.set off (.acc σ.heap.length 0))) ++ [.acc true sz []], low := σ.low } := by
  intro C φ a w S
  have hlt : l < σ.heap.length := (List.getElem?_eq_some_iff.1 hl).1
  obtain ⟨b, c, t, hφ, hh, rl, h1⟩ := S.objs l _ hl
  obtain ⟨v, hv, base, cap, rfl, _, hcap, _⟩ := rl.get hc
  have hcap : cap = 0 := hcap rfl
  subst hcap
  have S' := S.nameAcc (imm := true) (sz := sz) (rows := []) (w' := w) (h' := .slice base 0 0) (Nat.le_refl _) (fun _ _ => rfl) (fun _ => rfl) ⟨rfl, rfl⟩ (by
    intro b hb
    cases base <;> simp [AObj.block] at hb) (fun E' _ _ => ⟨base, 0, rfl, Nat.le_refl _, fun _ => rfl, by simp, fun b _ h0 => absurd rfl h0⟩)
  refine ⟨(fun k => if k = σ.heap.length then .slice base 0 0 else φ k), ?_⟩
  have hl' : (σ.heap ++ [AObj.acc true sz []])[l]? = some (.cells cs) := by rw [List.getElem?_append_left hlt]; exact hl
  have S2 := S'.recell (l := l) (cs := cs) (ds := cs.set off (.acc σ.heap.length 0)) hl' (by
    intro b2 c2 t2 h3 h4 r
    have e1 : b2 = b := by
      have h3' : (if l = σ.heap.length then Value.slice base 0 0 else φ l) = .pointer (some ⟨b2, 0, none⟩) := h3
      rw [if_neg (by omega), hφ] at h3'
      simpa using h3'.symm
    subst e1
    rw [show w.heap[b2]? = some (.cells c t (0, 0)) from hh] at h4
    simp only [Option.some.injEq, Obj.cells.injEq] at h4
    obtain ⟨rfl, _⟩ := h4
    have hset := RepL.set (i := off) (c := .acc σ.heap.length 0) (v := .slice base 0 0) r ⟨by simp [Ctx.env], ⟨_, _, _, rfl⟩, fun k hk => by
      simp only [Ctx.env, List.getElem?_append_right (Nat.le_refl _), Nat.sub_self, List.getElem?_cons_zero, accLen, Option.some.injEq] at hk
      exact ⟨by simp, fun _ => by simp [Ctx.env]⟩⟩
    have hsame : c.toList.set off (.slice base 0 0) = c.toList := by
      obtain ⟨hlt2, he⟩ := List.getElem?_eq_some_iff.1 hv
      have he' : c.toList[off] = .slice base 0 0 := he
      rw [← he', List.set_getElem_self]
    rw [hsame] at hset
    exact hset)
  have hset : (σ.heap ++ [AObj.acc true sz []]).set l (.cells (cs.set off (.acc σ.heap.length 0))) = σ.heap.set l (.cells (cs.set off (.acc σ.heap.length 0))) ++ [.acc true sz []] := by
    rw [List.set_append_left _ _ hlt]
  rw [hset] at S2
  exact S2

def gCell (l off sz : Nat) (σ : AState) : AState :=
  match σ.heap[l]? with
  | some (.cells cs) => match cs[off]? with
    | some (.lst true _ []) => { slots := σ.slots, heap := σ.heap.set l (.cells (cs.set off (.acc σ.heap.length 0))) ++ [.acc true sz []], low := σ.low }
    | _ => σ
  | _ => σ
theorem gCell_ok {l off sz : Nat} {σ : AState} : Imp σ (gCell l off sz σ) := by
  unfold gCell
  split
  · rename_i cs hl
    split
    · rename_i s hc
      exact ghostCell hl hc
    · exact Imp.refl σ
  · exact Imp.refl σ
end ghost

structure Nrm where
  gs : List (Nat × Nat × Bool)
  gc : List (Nat × Nat × Nat)
  zs : List NZ
  zo : List ZO
  sel : Option Nat

def isLstS : Option AV → Bool
  | some (.lst _ _ _) => true
  | _ => false
def selO : Option Nat → AState → Bool
  | none, _ => true
  | some i, σ => isLstS σ.slots[i]?

def gSlots : List (Nat × Nat × Bool) → AState → AState
  | [], σ => σ
  | (i, sz, b) :: r, σ => gSlots r (gSlot i sz b σ)
def gCells : List (Nat × Nat × Nat) → AState → AState
  | [], σ => σ
  | (l, o, sz) :: r, σ => gCells r (gCell l o sz σ)
theorem gSlots_ok : ∀ {g : List (Nat × Nat × Bool)} {σ : AState}, Imp σ (gSlots g σ)
  | [], σ => Imp.refl σ
  | (_, _, _) :: _, _ => gSlot_ok.trans gSlots_ok
theorem gCells_ok : ∀ {g : List (Nat × Nat × Nat)} {σ : AState}, Imp σ (gCells g σ)
  | [], σ => Imp.refl σ
  | (_, _, _) :: _, _ => gCell_ok.trans gCells_ok

def nrmN (N : Nrm) (σ : AState) : Option AState := nrmZ N.zs N.zo (gCells N.gc (gSlots N.gs σ))
theorem nrmN_ok {N : Nrm} {σ σ' : AState} (h : nrmN N σ = some σ') : Imp σ σ' := (gSlots_ok.trans gCells_ok).trans (nrmZ_ok h)

def tabN : List (List Nat × Nrm) → List Nat → AState → Option AState
  | [], _, σ => some σ
  | (q, N) :: t, p, σ => if p = q then (bif selO N.sel σ then nrmN N σ else tabN t p σ) else tabN t p σ
theorem tabN_ok : ∀ (t : List (List Nat × Nrm)) (p : List Nat) (σ σ' : AState), tabN t p σ = some σ' → Imp σ σ'
  | [], _, σ, σ', h => by simp only [tabN, Option.some.injEq] at h; subst h; exact Imp.refl _
  | (q, N) :: t, p, σ, σ', h => by
    simp only [tabN] at h
    split at h
    · cases hs : selO N.sel σ with
      | true => rw [hs] at h; exact nrmN_ok h
      | false => rw [hs] at h; exact tabN_ok t p σ σ' h
    · exact tabN_ok t p σ σ' h

def ixA (σ : AState) (sz : Nat) (x i : AV) : Option Eff :=
  match x, i with
  | .lst _ sz' rows, .int _ n => if sz' = sz then (idxA rows n).bind fun r => some { val := .pp r } else none
  | .acc l m, .int _ n => match σ.heap[l]? with
    | some (.acc true sz' rows) => if sz' = sz ∧ rows.length = m then (idxA rows n).bind fun r => some { val := .pp r, rd := [l] } else none
    | some (.acc false sz' rows) => if sz' = sz ∧ rows.length = m then (idxA rows n).bind fun _ => some { val := .own l n.toNat m 0 sz, rd := [l] } else none
    | _ => none
  | _, _ => none

def idxB (s : ByteArray) (n : Int) : Option UInt8 := if 0 ≤ n then s[n.toNat]? else none
def ixS (x i : AV) : Option Eff :=
  match x, i with
  | .str s, .int _ n => (idxB s n).bind fun b => some { val := .int .u8 b.toNat }
  | _, _ => none

def ldA (P : Program) (σ : AState) (t : TypeId) (v : AV) : Option Eff :=
  match tinfo P t, v with
  | some (g, n), .ptr l off => match σ.heap[l]? with
    | some (.cells cs) => (loadAV g n (cs.drop off)).bind fun v => ldV σ.heap l v
    | _ => none
  | some (g, n), .pp cs => (loadAV g n cs).bind fun v => some { val := v }
  | some (g, n), .own l i m o sz => match σ.heap[l]? with
    | some (.acc false sz' rows) => if sz' = sz ∧ rows.length = m then rows[i]?.bind fun r => (loadAV g n (r.drop o)).bind fun v => some { val := v, rd := [l] } else none
    | _ => none
  | some (false, _), .raw v => rawLd v
  | _, _ => none

def stA (P : Program) (σ : AState) (t : TypeId) (v : AV) (ys : Option (List AV)) : Option Eff :=
  match tinfo P t, v, ys with
  | some (_, n), .ptr l off, some ys => match σ.heap[l]? with
    | some (.cells cs) => if ys.length = n ∧ off + n ≤ cs.length then some { val := .any, rd := [l], up := [(l, .cells (splice cs off ys))] } else none
    | _ => none
  | some (_, n), .own l i m o sz, some ys => match σ.heap[l]? with
    | some (.acc false sz' rows) => if sz' = sz ∧ rows.length = m then rows[i]?.bind fun r => if ys.length = n ∧ o + n ≤ sz then some { val := .any, rd := [l], up := [(l, .acc false sz (rows.set i (splice r o ys)))] } else none else none
    | _ => none
  | _, _, _ => none

def selI (n : Int) (f : Nat → Option Eff) : Nat → Nat → Option Eff
  | 0, _ => none
  | c + 1, i => bif n == (i : Int) then f i else selI n f c (i + 1)
theorem selI_eq {n : Int} {f : Nat → Option Eff} : ∀ (c i : Nat), selI n f c i = if (i : Int) ≤ n ∧ n < (i : Int) + c then f n.toNat else none
  | 0, i => by rw [if_neg (by omega)]; rfl
  | c + 1, i => by
    rw [selI, selI_eq c (i + 1)]
    cases h : n == (i : Int) with
    | true =>
      have := beq_iff_eq.1 h
      subst this
      rw [cond_true, if_pos (by omega : (i : Int) ≤ (i : Int) ∧ (i : Int) < (i : Int) + ((c + 1 : Nat) : Int)), Int.toNat_natCast]
    | false =>
      have := beq_eq_false_iff_ne.1 h
      rw [cond_false]
      by_cases h2 : (i : Int) ≤ n ∧ n < (i : Int) + ((c + 1 : Nat) : Int)
      · rw [if_pos h2, if_pos (by omega)]
      · rw [if_neg h2, if_neg (by omega)]
def ixP (len sz : Nat) (x i : AV) : Option Eff :=
  match x, i with
  | .ptr l off, .int _ n => if len ≤ 8 then selI n (fun i => some { val := .ptr l (off + i * sz) }) len 0 else if 0 ≤ n ∧ n < len then some { val := .ptr l (off + n.toNat * sz) } else none
  | .pp cs, .int _ n => if 0 ≤ n ∧ n < len then (chunkA sz n.toNat cs).bind fun ds => some { val := .pp ds } else none
  | .raw (.pointer (some ⟨b, o, none⟩)), .int _ n => if 0 ≤ n ∧ n < len then some { val := .raw (.pointer (some ⟨b, o + n.toNat * sz, none⟩)) } else none
  | _, _ => none
def opX (P : Program) (σ : AState) : Op → Option Eff
  | .indexAddr t x i => match telem P t with
    | some (_, sz, _) => ixA σ sz (σ.ev x) (σ.ev i)
    | none => match tarr P t with
      | some (len, sz) => ixP len sz (σ.ev x) (σ.ev i)
      | none => none
  | .index t x i => if tstr P t = true then ixS (σ.ev x) (σ.ev i) else none
  | .binOp op t x y ty => match op with
    | .eql => opEff P σ (.binOp .eql t x y ty)
    | .neq => opEff P σ (.binOp .neq t x y ty)
    | op => (binAV op (σ.ev x) (σ.ev y)).bind fun v => some { val := v }
  | .load t x => ldA P σ t (σ.ev x)
  | .store t x y => stA P σ t (σ.ev x) (cellsOf (σ.ev y))
  | o => opEff P σ o

theorem vwL_of_nb (H : List AObj) : ∀ cs : List AV, nbL 0 cs → vwL H cs = some (cs, [])
  | [], _ => rfl
  | c :: cs, h => by
    have ih := vwL_of_nb H cs h.2
    cases c with
    | acc l n => exact absurd h.1 (Nat.not_lt_zero _)
    | _ => simp only [vwL, ih]

theorem opX_eq (P : Program) (σ : AState) (o : Op) : opEff P σ o = opX P σ o := by
  cases o with
  | indexAddr t x i =>
    simp only [opX]
    cases ht : telem P t with
    | none =>
      simp only [opEff, ht]
      cases hr : tarr P t with
      | none => rfl
      | some q =>
        obtain ⟨len, sz⟩ := q
        simp only
        unfold ixP
        split
        · rename_i l off k n hx hi
          simp only [hx, hi]
          by_cases h8 : len ≤ 8
          · rw [if_pos h8, selI_eq]; simp
          · rw [if_neg h8]
        · rename_i cs k n hx hi
          simp only [hx, hi]
        · rename_i b o k n hx hi
          simp only [hx, hi]
        · rename_i h1 h2 h3
          split
          · rename_i l off k n hx hi; exact absurd hi (h1 l off k n hx)
          · rename_i cs k n hx hi; exact absurd hi (h2 cs k n hx)
          · rename_i b o k n hx hi; exact absurd hi (h3 b o k n hx)
          · rfl
    | some q =>
      obtain ⟨e, sz, b⟩ := q
      simp only [opEff, ht]
      cases hx : σ.ev x <;> cases hi : σ.ev i <;> simp only [ixA]
      · rename_i tt sz' rows k n
        by_cases h1 : sz' = sz
        · by_cases h2 : 0 ≤ n
          · simp only [h1, h2, and_self, if_true, idxA]
            cases rows[n.toNat]? <;> rfl
          · simp only [h1, h2, and_false, if_false, if_true, idxA]; rfl
        · simp only [h1, false_and, if_false]
      · rename_i l m k n
        cases hl : σ.heap[l]? with
        | none => rfl
        | some ob =>
          cases ob with
          | acc imm sz' rows =>
            cases imm with
            | false =>
              simp only
              by_cases h1 : sz' = sz
              · by_cases h3 : rows.length = m
                · by_cases h2 : 0 ≤ n
                  · by_cases h4 : n < m
                    · have h5 : n.toNat < rows.length := by omega
                      simp only [h1, h2, h3, h4, and_self, if_true, idxA, List.getElem?_eq_getElem h5]; rfl
                    · have h5 : rows.length ≤ n.toNat := by omega
                      simp only [h1, h2, h3, h4, and_false, if_false, and_self, if_true, idxA, List.getElem?_eq_none h5]; rfl
                  · simp only [h1, h2, h3, and_false, false_and, if_false, and_self, if_true, idxA]; rfl
                · simp only [h3, and_false, false_and, if_false]
              · simp only [h1, false_and, if_false]
            | true =>
              simp only
              by_cases h1 : sz' = sz
              · by_cases h3 : rows.length = m
                · by_cases h2 : 0 ≤ n
                  · simp only [h1, h2, h3, and_self, if_true, idxA]
                    cases rows[n.toNat]? <;> rfl
                  · simp only [h1, h2, h3, and_false, false_and, if_false, and_self, if_true, idxA]; rfl
                · simp only [h3, and_false, if_false]
              · simp only [h1, false_and, if_false]
          | _ => rfl
  | index t x i =>
    simp only [opX, opEff]
    cases ht : tstr P t
    · cases hx : σ.ev x <;> cases hi : σ.ev i <;> simp
    · cases hx : σ.ev x <;> cases hi : σ.ev i <;> simp only [ixS, if_true]
      rename_i s k n
      by_cases h2 : 0 ≤ n
      · simp only [h2, if_true, idxB]
        cases s[n.toNat]? <;> rfl
      · simp only [h2, if_false, idxB]; rfl
  | binOp op t x y ty =>
    cases op with
    | eql => rfl
    | neq => rfl
    | _ =>
      simp only [opX, opEff]
      generalize binAV _ (σ.ev x) (σ.ev y) = q
      cases q <;> rfl
  | load t x =>
    simp only [opX, opEff, ldA]
    cases ht : tinfo P t with
    | none => rfl
    | some q =>
      obtain ⟨g, n⟩ := q
      cases hx : σ.ev x with
      | ptr l off =>
        cases hl : σ.heap[l]? with
        | none => simp only [hl]
        | some ob =>
          cases ob with
          | cells cs =>
            simp only [hl]
            cases loadAV g n (cs.drop off) <;> rfl
          | _ => simp only [hl]
      | pp cs =>
        simp only
        cases loadAV g n cs <;> rfl
      | own l i m o sz =>
        cases hl : σ.heap[l]? with
        | none => simp only [hl]
        | some ob =>
          cases ob with
          | acc imm sz' rows =>
            cases imm with
            | true => simp only [hl]
            | false =>
              simp only [hl]
              split
              · cases rows[i]? with
                | none => rfl
                | some r =>
                  simp only [Option.bind_some]
                  cases loadAV g n (r.drop o) <;> rfl
              · rfl
          | _ => simp only [hl]
      | raw v => cases g <;> rfl
      | _ => rfl
  | store t x y =>
    simp only [opX, opEff, stA]
    cases ht : tinfo P t with
    | none => rfl
    | some q =>
      obtain ⟨g, n⟩ := q
      cases hx : σ.ev x with
      | ptr l off =>
        cases cellsOf (σ.ev y) with
        | none => rfl
        | some ys =>
          cases hl : σ.heap[l]? with
          | none => simp only [hl]
          | some ob => cases ob <;> simp only [hl]
      | own l i m o sz =>
        cases cellsOf (σ.ev y) with
        | none => rfl
        | some ys =>
          cases hl : σ.heap[l]? with
          | none => simp only [hl]
          | some ob =>
            cases ob with
            | acc imm sz' rows =>
              cases imm with
              | true => simp only [hl]
              | false =>
                simp only [hl]
                split
                · cases rows[i]? <;> rfl
                · rfl
            | _ => simp only [hl]
      | _ => rfl
  | _ => rfl
end Go.Abs
namespace Go.Abs

section freeze
variable {C : Ctx} {φ : Nat → Value} {σ : AState} {a : Act} {w : World}

def rp1 (l : Nat) (cs : List AV) : AV → AV
  | .ptr k off => if k = l then .pp (cs.drop off) else .ptr k off
  | x => x
def rpV (l : Nat) (cs : List AV) : AV → AV
  | .ptr k off => if k = l then .pp (cs.drop off) else .ptr k off
  | .func fn f c => .func fn (f.map (rp1 l cs)) (c.map (rp1 l cs))
  | x => x
def rpO (l : Nat) (cs : List AV) : AObj → AObj
  | .cells ds => .cells (ds.map (rpV l cs))
  | x => x

noncomputable def fzOne (l : Nat) (σ : AState) : Option AState :=
  match σ.heap[l]? with
  | some (.cells cs) => pcond (nbL 0 cs ∧ σ.low ≤ l) (some { slots := σ.slots.map (rpV l cs), heap := (σ.heap.map (rpO l cs)).set l .dead, low := σ.low })
  | _ => none

theorem rpO_muts {l : Nat} {cs : List AV} {x : AObj} {h : Value} {b o : Nat} : (rpO l cs x).muts h b o → x.muts h b o := by
  cases x with
  | cells ds => exact muts_cells
  | _ => exact id
theorem rpO_block {l : Nat} {cs : List AV} {x : AObj} {h : Value} {b : Nat} : (rpO l cs x).block h b → x.block h b := by
  cases x with
  | cells ds => exact block_cells
  | _ => exact id
theorem rpO_len {l : Nat} {cs : List AV} {x : AObj} : accLen (some (rpO l cs x)) = accLen (some x) := by
  cases x <;> rfl

theorem fz_get {H : List AObj} {l k : Nat} {cs : List AV} {y : AObj} (h : ((H.map (rpO l cs)).set l .dead)[k]? = some y) : (k = l ∧ y = .dead) ∨ (k ≠ l ∧ ∃ x, H[k]? = some x ∧ y = rpO l cs x) := by
  by_cases e : k = l
  · subst e
    by_cases hk : k < H.length
    · rw [List.getElem?_set_self (by simpa using hk)] at h; cases h; exact .inl ⟨rfl, rfl⟩
    · rw [List.getElem?_eq_none (by simp; omega)] at h; cases h
  · rw [List.getElem?_set_ne (fun h => e h.symm), List.getElem?_map] at h
    cases hx : H[k]? with
    | none => rw [hx] at h; cases h
    | some x => rw [hx] at h; cases h; exact .inr ⟨e, x, rfl, rfl⟩

theorem fzOne_ok {l : Nat} {σ σ' : AState} (h : fzOne l σ = some σ') : Imp σ σ' := by
  unfold fzOne at h
  split at h
  case h_2 => cases h
  rename_i cs hl
  rw [pcond_some] at h
  obtain ⟨⟨hnb, hlow⟩, h⟩ := h
  cases h
  intro C φ a w S
  refine ⟨φ, ?_⟩
  have hlt : l < σ.heap.length := (List.getElem?_eq_some_iff.1 hl).1
  obtain ⟨b0, c0, t0, hφ, hh, rl, hone⟩ := S.objs l _ hl
  let H' : List AObj := (σ.heap.map (rpO l cs)).set l .dead
  have hlen : H'.length = σ.heap.length := by simp [H']
  have hget : ∀ (k : Nat) (y : AObj), H'[k]? = some y → (k = l ∧ y = .dead) ∨ (k ≠ l ∧ ∃ x, σ.heap[k]? = some x ∧ y = rpO l cs x) := fun k y hy => fz_get hy
  have hmut : ∀ b o, Mut φ H' b o → Mut φ σ.heap b o := by
    rintro b o ⟨k, y, hy, hm⟩
    rcases hget k y hy with ⟨_, rfl⟩ | ⟨_, x, hx, rfl⟩
    · simp [AObj.muts] at hm
    · exact ⟨k, x, hx, rpO_muts hm⟩
  have hlenk : ∀ k : Nat, accLen H'[k]? = accLen σ.heap[k]? := by
    intro k
    by_cases e : k = l
    · subst e
      simp only [H']
      rw [List.getElem?_set_self (by simpa using hlt), hl]; rfl
    · simp only [H']
      rw [List.getElem?_set_ne (fun h => e h.symm), List.getElem?_map]
      cases σ.heap[k]? with
      | none => rfl
      | some x => exact rpO_len
  have le : (C.env φ σ.heap w).Le σ.heap.length (C.env φ H' w) :=
    Ctx.env_le (by rw [hlen]; exact Nat.le_refl _) (fun k _ => ⟨rfl, hlenk k⟩) (fun b o u hm hc => ⟨fun h => hm (h.imp (hmut b o) id), hc⟩)
  have hfree : ∀ o, ¬ (Mut φ H' b0 o ∨ C.A b0 o) := by
    rintro o (⟨k, y, hy, hm⟩ | hA)
    · rcases hget k y hy with ⟨_, rfl⟩ | ⟨hne, x, hx, rfl⟩
      · simp [AObj.muts] at hm
      · exact hne (S.apart k l x _ b0 hx hl (rpO_block (AObj.block_of_muts hm)) (by rw [hφ]; rfl))
    · exact S.notA l _ b0 o hl (by rw [hφ]; rfl) hA
  have rl' : RepL (C.env φ H' w) cs c0.toList := RepL.mono le _ _ (nbL_le (Nat.zero_le _) _ hnb) rl
  have hpp : ∀ (off : Nat) (v : Value), Rep (C.env φ σ.heap w) (.ptr l off) v → Rep (C.env φ H' w) (.pp (cs.drop off)) v := by
    rintro off v ⟨_, b, hb, rfl⟩
    have e : b0 = b := by
      have hb' : φ l = .pointer (some ⟨b, 0, none⟩) := hb
      rw [hφ] at hb'; simpa using hb'
    subst e
    refine ⟨b0, off, rfl, ?_⟩
    have hd := rl'.drop off
    have h1 : ∀ u ∈ c0.toList.drop off, u.oneCell' = true := fun u hu => hone u (List.mem_of_mem_drop hu)
    have hl2 := hd.length
    exact repMem_of_cells (E := C.env φ H' w) (c := c0) (t := t0) (fr := (0, 0)) hh _ off (fun o _ _ => hfree o) (by rw [List.take_of_length_le (by omega)]; exact hd) (by rw [List.take_of_length_le (by omega)]; exact h1)
  have h1 : ∀ (x : AV) (v : Value), Rep (C.env φ σ.heap w) x v → Rep (C.env φ H' w) (rp1 l cs x) v := by
    intro x v r
    cases x with
    | ptr k off =>
      simp only [rp1]
      split
      · rename_i e; subst e; exact hpp off v r
      · exact Rep.mono le _ _ (Rep.nb _ _ r) r
    | _ => exact Rep.mono le _ _ (Rep.nb _ _ r) r
  have hL1 : ∀ (xs : List AV) (vs : List Value), RepL (C.env φ σ.heap w) xs vs → RepL (C.env φ H' w) (xs.map (rp1 l cs)) vs := by
    intro xs
    induction xs with
    | nil => intro vs r; exact r
    | cons x xs ih => rintro _ ⟨u, us, rfl, r1, r2⟩; exact ⟨u, us, rfl, h1 x u r1, ih us r2⟩
  have hV : ∀ (x : AV) (v : Value), Rep (C.env φ σ.heap w) x v → Rep (C.env φ H' w) (rpV l cs x) v := by
    intro x v r
    cases x with
    | ptr k off =>
      simp only [rpV]
      split
      · rename_i e; subst e; exact hpp off v r
      · exact Rep.mono le _ _ (Rep.nb _ _ r) r
    | func fn f c =>
      obtain ⟨f', c', hv, r1, r2⟩ := r
      exact ⟨f', c', hv, hL1 _ _ r1, hL1 _ _ r2⟩
    | _ => exact Rep.mono le _ _ (Rep.nb _ _ r) r
  have hLV : ∀ (xs : List AV) (vs : List Value), RepL (C.env φ σ.heap w) xs vs → RepL (C.env φ H' w) (xs.map (rpV l cs)) vs := by
    intro xs
    induction xs with
    | nil => intro vs r; exact r
    | cons x xs ih => rintro _ ⟨u, us, rfl, r1, r2⟩; exact ⟨u, us, rfl, hV x u r1, ih us r2⟩
  have hdef : DefOK C φ H' w a.defers := S.defers.step (fun _ _ _ => rfl) (fun k y b hy hb => by
    rcases hget k y hy with ⟨_, rfl⟩ | ⟨_, x, hx, rfl⟩
    · simp [AObj.block] at hb
    · exact .inl ⟨k, x, hx, rpO_block hb⟩)
  refine { slots := hLV _ _ S.slots, defers := hdef, objs := ?_, apart := ?_, notA := ?_, size := S.size, old := S.old, oldObj := S.oldObj, inM := ?_, froz := S.froz, rest := S.rest, low := ⟨S.low.1, by show σ.low ≤ H'.length; rw [hlen]; exact S.low.2⟩, names := ?_ }
  · intro k y hy
    rcases hget k y hy with ⟨_, rfl⟩ | ⟨_, x, hx, rfl⟩
    · exact trivial
    · have r := S.objs k x hx
      cases x with
      | cells ds =>
        obtain ⟨b, c, t, h1, h2, h3, h4⟩ := r
        exact ⟨b, c, t, h1, h2, hLV _ _ h3, h4⟩
      | _ => exact ObjRep.mono r le (fun _ _ => rfl)
  · intro k k' y y' b hy hy' hb hb'
    rcases hget k y hy with ⟨_, rfl⟩ | ⟨_, x, hx, rfl⟩
    · simp [AObj.block] at hb
    · rcases hget k' y' hy' with ⟨_, rfl⟩ | ⟨_, x', hx', rfl⟩
      · simp [AObj.block] at hb'
      · exact S.apart k k' x x' b hx hx' (rpO_block hb) (rpO_block hb')
  · intro k y b o hy hb
    rcases hget k y hy with ⟨_, rfl⟩ | ⟨_, x, hx, rfl⟩
    · simp [AObj.block] at hb
    · exact S.notA k x b o hx (rpO_block hb)
  · intro k y b o hy hm hb
    rcases hget k y hy with ⟨_, rfl⟩ | ⟨_, x, hx, rfl⟩
    · simp [AObj.muts] at hm
    · exact S.inM k x b o hx (rpO_muts hm) hb
  · intro k hk
    have := S.names k hk
    show (φ k = _ ∧ (accLen H'[k]? = _ ∨ accLen H'[k]? = none)) ∨ ((∃ q, _ ∧ ∀ k', accLen H'[k]? = some k' → q < k') ∧ _)
    rw [hlenk k]; exact this
theorem imm_muts {sz : Nat} {rows : List (List AV)} {h : Value} {b o : Nat} : (AObj.acc true sz rows).muts h b o → (AObj.acc false sz rows).muts h b o := by
  intro hm
  cases h with
  | slice base n cap =>
    cases base with
    | none => exact hm
    | some a => exact ⟨hm.1, fun h => by cases h⟩
  | _ => exact hm
theorem Sim.imm {C : Ctx} {φ : Nat → Value} {a : Act} {w : World} {σ : AState} {l sz : Nat} {rows : List (List AV)} (hl : σ.heap[l]? = some (.acc false sz rows)) (S : Sim C φ σ a w) : Sim C φ { σ with heap := σ.heap.set l (.acc true sz rows) } a w := by
  have hlt : l < σ.heap.length := (List.getElem?_eq_some_iff.1 hl).1
  let H' : List AObj := σ.heap.set l (.acc true sz rows)
  have hlen : H'.length = σ.heap.length := by simp [H']
  have hget : ∀ (k : Nat) (y : AObj), H'[k]? = some y → (k = l ∧ y = .acc true sz rows) ∨ σ.heap[k]? = some y := by
    intro k y hy
    by_cases e : k = l
    · subst e
      simp only [H'] at hy
      rw [List.getElem?_set_self hlt] at hy; cases hy; exact .inl ⟨rfl, rfl⟩
    · simp only [H'] at hy
      rw [List.getElem?_set_ne (fun h => e h.symm)] at hy; exact .inr hy
  have hmut : ∀ b o, Mut φ H' b o → Mut φ σ.heap b o := by
    rintro b o ⟨k, y, hy, hm⟩
    rcases hget k y hy with ⟨rfl, rfl⟩ | hx
    · exact ⟨k, _, hl, imm_muts hm⟩
    · exact ⟨k, y, hx, hm⟩
  have hlenk : ∀ k : Nat, accLen H'[k]? = accLen σ.heap[k]? := by
    intro k
    by_cases e : k = l
    · subst e
      simp only [H']
      rw [List.getElem?_set_self hlt, hl]; rfl
    · simp only [H']
      rw [List.getElem?_set_ne (fun h => e h.symm)]
  have le : (C.env φ σ.heap w).Le σ.heap.length (C.env φ H' w) :=
    Ctx.env_le (by rw [hlen]; exact Nat.le_refl _) (fun k _ => ⟨rfl, hlenk k⟩) (fun b o u hm hc => ⟨fun h => hm (h.imp (hmut b o) id), hc⟩)
  have hblk : ∀ {h : Value} {b : Nat}, (AObj.acc true sz rows).block h b → (AObj.acc false sz rows).block h b := by
    intro h b hb
    cases h with
    | slice base n cap => cases base <;> exact hb
    | _ => exact hb
  have hblk2 : ∀ (k : Nat) (y : AObj) (b : Nat), H'[k]? = some y → y.block (φ k) b → ∃ x, σ.heap[k]? = some x ∧ x.block (φ k) b := by
    intro k y b hy hb
    rcases hget k y hy with ⟨rfl, rfl⟩ | hx
    · exact ⟨_, hl, hblk hb⟩
    · exact ⟨y, hx, hb⟩
  have hdef : DefOK C φ H' w a.defers := S.defers.step (fun _ _ _ => rfl) (fun k y b hy hb => by
    obtain ⟨x, hx, hb'⟩ := hblk2 k y b hy hb
    exact .inl ⟨k, x, hx, hb'⟩)
  refine { slots := RepL.mono le _ _ (RepL.nb _ _ S.slots) S.slots, defers := hdef, objs := ?_, apart := ?_, notA := ?_, size := S.size, old := S.old, oldObj := S.oldObj, inM := ?_, froz := S.froz, rest := S.rest, low := ⟨S.low.1, by show σ.low ≤ H'.length; rw [hlen]; exact S.low.2⟩, names := ?_ }
  · intro k y hy
    rcases hget k y hy with ⟨rfl, rfl⟩ | hx
    · have r : ObjRep (C.env φ H' w) (.acc false sz rows) (φ k) := ObjRep.mono (S.objs k _ hl) le (fun _ _ => rfl)
      exact r
    · exact ObjRep.mono (S.objs k y hx) le (fun _ _ => rfl)
  · intro k k' y y' b hy hy' hb hb'
    obtain ⟨x, hx, hb1⟩ := hblk2 k y b hy hb
    obtain ⟨x', hx', hb2⟩ := hblk2 k' y' b hy' hb'
    exact S.apart k k' x x' b hx hx' hb1 hb2
  · intro k y b o hy hb
    obtain ⟨x, hx, hb1⟩ := hblk2 k y b hy hb
    exact S.notA k x b o hx hb1
  · intro k y b o hy hm hb
    rcases hget k y hy with ⟨rfl, rfl⟩ | hx
    · exact S.inM k _ b o hl (imm_muts hm) hb
    · exact S.inM k y b o hx hm hb
  · intro k hk
    have := S.names k hk
    show (φ k = _ ∧ (accLen H'[k]? = _ ∨ accLen H'[k]? = none)) ∨ ((∃ q, _ ∧ ∀ k', accLen H'[k]? = some k' → q < k') ∧ _)
    rw [hlenk k]; exact this
theorem imp_imm {σ : AState} {l sz : Nat} {rows : List (List AV)} (hl : σ.heap[l]? = some (.acc false sz rows)) : Imp σ { σ with heap := σ.heap.set l (.acc true sz rows) } := fun _ φ _ _ S => ⟨φ, Sim.imm hl S⟩
def immO (σ : AState) (l : Nat) : Option AObj → AState
  | some (.acc false sz rows) => { σ with heap := σ.heap.set l (.acc true sz rows) }
  | _ => σ
theorem immO_ok {σ : AState} {l : Nat} : Imp σ (immO σ l σ.heap[l]?) := by
  unfold immO
  split
  · rename_i h; exact imp_imm h
  · exact Imp.refl _
def immV (σ : AState) : Option AV → AState
  | some (.acc l _) => immO σ l σ.heap[l]?
  | _ => σ
theorem immV_f {σ : AState} : (∀ l n, immV σ (some (.acc l n)) = immO σ l σ.heap[l]?) := fun _ _ => rfl
theorem immO_f {σ : AState} {l : Nat} : (∀ sz rows, immO σ l (some (.acc false sz rows)) = { σ with heap := σ.heap.set l (.acc true sz rows) }) ∧ (∀ sz rows, immO σ l (some (.acc true sz rows)) = σ) := ⟨fun _ _ => rfl, fun _ _ => rfl⟩
end freeze

noncomputable def fzX (l : Nat) (σ : AState) : Option AObj → Option AState
  | some (.acc _ _ _) => some (immO σ l σ.heap[l]?)
  | _ => fzOne l σ
theorem fzX_ok {l : Nat} {σ σ' : AState} {x : Option AObj} (h : fzX l σ x = some σ') : Imp σ σ' := by
  unfold fzX at h
  split at h
  · simp only [Option.some.injEq] at h; subst h; exact immO_ok
  · exact fzOne_ok h
noncomputable def fzAll : List Nat → AState → Option AState
  | [], σ => some σ
  | l :: ls, σ => (fzX l σ σ.heap[l]?).bind (fzAll ls)
theorem fzX_f {l : Nat} {σ : AState} : (∀ i s r, fzX l σ (some (.acc i s r)) = some (immO σ l σ.heap[l]?)) ∧ (∀ cs, fzX l σ (some (.cells cs)) = fzOne l σ) := ⟨fun _ _ _ => rfl, fun _ => rfl⟩
theorem fzAll_ok : ∀ {ls : List Nat} {σ σ' : AState}, fzAll ls σ = some σ' → Imp σ σ'
  | [], σ, σ', h => by simp only [fzAll, Option.some.injEq] at h; subst h; exact Imp.refl _
  | l :: ls, σ, σ', h => by
    simp only [fzAll, Option.bind_eq_some_iff] at h
    obtain ⟨σ1, h1, h2⟩ := h
    exact (fzX_ok h1).trans (fzAll_ok h2)
noncomputable def tabF : List (List Nat × List Nat) → List Nat → AState → Option AState
  | [], _, σ => some σ
  | (q, ls) :: t, p, σ => if p = q then fzAll ls σ else tabF t p σ
theorem tabF_ok : ∀ (t : List (List Nat × List Nat)) (p : List Nat) (σ σ' : AState), tabF t p σ = some σ' → Imp σ σ'
  | [], _, σ, σ', h => by simp only [tabF, Option.some.injEq] at h; subst h; exact Imp.refl _
  | (q, ls) :: t, p, σ, σ', h => by
    simp only [tabF] at h
    split at h
    · exact fzAll_ok h
    · exact tabF_ok t p σ σ' h

-- single cells as structs
section cels
def cI (k : IntKind) : Cel Int where
  enc n := [.int k n]
  dec _ cs := dI1 k cs
  ok H n cs x h := by
    unfold dI1 at h
    split at h
    · exact CoL1.cons (dI_ok h) CoL1.nil
    · cases h
  nb _ _ := ⟨trivial, trivial⟩
def cB : Cel Bool where
  enc b := [.bool b]
  dec _ cs := dB1 cs
  ok H n cs x h := by
    unfold dB1 at h
    split at h
    · exact CoL1.cons (dB_ok h) CoL1.nil
    · cases h
  nb _ _ := ⟨trivial, trivial⟩
def cS : Cel Str where
  enc s := [.str (sb s)]
  dec _ cs := dS1 cs
  ok H n cs x h := by
    unfold dS1 at h
    split at h
    · exact CoL1.cons (dS_ok h) CoL1.nil
    · cases h
  nb _ _ := ⟨trivial, trivial⟩
variable {α β γ : Type}
def dL1 (r : Row α) (H : List AObj) : List AV → Option (List α)
  | [c] => dL r H c
  | _ => none
def cL (r : Row α) : Cel (List α) where
  enc xs := [.lst false r.sz (mp r.enc xs)]
  dec := dL1 r
  ok H n cs x h := by
    unfold dL1 at h
    split at h
    · exact CoL1.cons (dL_ok h) CoL1.nil
    · cases h
  nb n xs := ⟨nbR_rows xs, trivial⟩
def dF1 (f : FuncId) : List AV → Option Unit
  | [c] => dF f c
  | _ => none
def cF (f : FuncId) : Cel Unit where
  enc _ := [.func (.func f) [] []]
  dec _ cs := dF1 f cs
  ok H n cs x h := by
    unfold dF1 at h
    split at h
    · unfold dF at h
      split at h
      · split at h
        · rename_i e; subst e; exact CoL1.cons (Co1.sub (Sub.refl _) ⟨trivial, trivial⟩) CoL1.nil
        · cases h
      · cases h
    · cases h
  nb _ _ := ⟨⟨trivial, trivial⟩, trivial⟩
theorem cI_f {k : IntKind} : (∀ n, (cI k).enc n = [.int k n]) ∧ ∀ H cs, (cI k).dec H cs = dI1 k cs := ⟨fun _ => rfl, fun _ _ => rfl⟩
theorem cB_f : (∀ n, cB.enc n = [.bool n]) ∧ ∀ H cs, cB.dec H cs = dB1 cs := ⟨fun _ => rfl, fun _ _ => rfl⟩
theorem cS_f : (∀ n, cS.enc n = [.str (sb n)]) ∧ ∀ H cs, cS.dec H cs = dS1 cs := ⟨fun _ => rfl, fun _ _ => rfl⟩
theorem cL_f {r : Row α} : (∀ n, (cL r).enc n = [.lst false r.sz (mp r.enc n)]) ∧ ∀ H cs, (cL r).dec H cs = dL1 r H cs := ⟨fun _ => rfl, fun _ _ => rfl⟩
theorem cF_f {f : FuncId} : (∀ n, (cF f).enc n = [.func (.func f) [] []]) ∧ ∀ H cs, (cF f).dec H cs = dF1 f cs := ⟨fun _ => rfl, fun _ _ => rfl⟩

def dP (c : Cel α) : AV → Option α
  | .pp cs => c.dec [] cs
  | _ => none
theorem dP_ok {c : Cel α} {v : AV} {x : α} (h : dP c v = some x) : Sub v (.pp (c.enc x)) := by
  unfold dP at h
  split at h
  · exact Sub.pp (c.ok [] 0 _ _ h).toSub.subM
  · cases h
def tyP (c : Cel α) : Ty α where
  enc x := .pp (c.enc x)
  dec _ := dP c
  ok H n v x h := Co.sub (dP_ok h) (c.nb n x)
  nb n x := c.nb n x
theorem tyP_enc {c : Cel α} {x : α} : (tyP c).enc x = .pp (c.enc x) := rfl
theorem tyP_dec {c : Cel α} {H : List AObj} {v : AV} : (tyP c).dec H v = dP c v := rfl

def dK1 (f : FuncId) (a : Ty α) : AV → Option α
  | .func (.func g) [] [x] => if g = f then a.dec [] x else none
  | _ => none
def dK2 (f : FuncId) (a : Ty α) (b : Ty β) : AV → Option (α × β)
  | .func (.func g) [] [x, y] => if g = f then (a.dec [] x).bind fun u => (b.dec [] y).bind fun v => some (u, v) else none
  | _ => none
def dK3 (f : FuncId) (a : Ty α) (b : Ty β) (c : Ty γ) : AV → Option (α × β × γ)
  | .func (.func g) [] [x, y, z] => if g = f then (a.dec [] x).bind fun u => (b.dec [] y).bind fun v => (c.dec [] z).bind fun w => some (u, v, w) else none
  | _ => none
def tyK1 (f : FuncId) (a : Ty α) : Ty α where
  enc x := .func (.func f) [] [a.enc x]
  dec _ := dK1 f a
  ok H n v x h := by
    unfold dK1 at h
    split at h
    · split at h
      · rename_i e; subst e
        exact Co.sub (Sub.func SubL.nil (SubL.cons (a.ok [] 0 _ _ h).toSub SubL.nil)) ⟨trivial, a.nb n x, trivial⟩
      · cases h
    · cases h
  nb n x := ⟨trivial, a.nb n x, trivial⟩
def tyK2 (f : FuncId) (a : Ty α) (b : Ty β) : Ty (α × β) where
  enc x := .func (.func f) [] [a.enc x.1, b.enc x.2]
  dec _ := dK2 f a b
  ok H n v x h := by
    unfold dK2 at h
    split at h
    · split at h
      · rename_i e; subst e
        simp only [Option.bind_eq_some_iff, Option.some.injEq] at h
        obtain ⟨u, hu, w, hw, rfl⟩ := h
        exact Co.sub (Sub.func SubL.nil (SubL.cons (a.ok [] 0 _ _ hu).toSub (SubL.cons (b.ok [] 0 _ _ hw).toSub SubL.nil))) ⟨trivial, a.nb n u, b.nb n w, trivial⟩
      · cases h
    · cases h
  nb n x := ⟨trivial, a.nb n _, b.nb n _, trivial⟩
def tyK3 (f : FuncId) (a : Ty α) (b : Ty β) (c : Ty γ) : Ty (α × β × γ) where
  enc x := .func (.func f) [] [a.enc x.1, b.enc x.2.1, c.enc x.2.2]
  dec _ := dK3 f a b c
  ok H n v x h := by
    unfold dK3 at h
    split at h
    · split at h
      · rename_i e; subst e
        simp only [Option.bind_eq_some_iff, Option.some.injEq] at h
        obtain ⟨u, hu, w, hw, p, hp, rfl⟩ := h
        exact Co.sub (Sub.func SubL.nil (SubL.cons (a.ok [] 0 _ _ hu).toSub (SubL.cons (b.ok [] 0 _ _ hw).toSub (SubL.cons (c.ok [] 0 _ _ hp).toSub SubL.nil)))) ⟨trivial, a.nb n u, b.nb n w, c.nb n p, trivial⟩
      · cases h
    · cases h
  nb n x := ⟨trivial, a.nb n _, b.nb n _, c.nb n _, trivial⟩
theorem tyK1_f {f : FuncId} {a : Ty α} : (∀ x, (tyK1 f a).enc x = .func (.func f) [] [a.enc x]) ∧ ∀ H v, (tyK1 f a).dec H v = dK1 f a v := ⟨fun _ => rfl, fun _ _ => rfl⟩
theorem tyK2_f {f : FuncId} {a : Ty α} {b : Ty β} : (∀ x, (tyK2 f a b).enc x = .func (.func f) [] [a.enc x.1, b.enc x.2]) ∧ ∀ H v, (tyK2 f a b).dec H v = dK2 f a b v := ⟨fun _ => rfl, fun _ _ => rfl⟩
theorem tyK3_f {f : FuncId} {a : Ty α} {b : Ty β} {c : Ty γ} : (∀ x, (tyK3 f a b c).enc x = .func (.func f) [] [a.enc x.1, b.enc x.2.1, c.enc x.2.2]) ∧ ∀ H v, (tyK3 f a b c).dec H v = dK3 f a b c v := ⟨fun _ => rfl, fun _ _ => rfl⟩
end cels
end Go.Abs
namespace Go.Abs

section objs
variable {α β γ : Type}

structure OTy (α : Type) where
  enc : α → AObj
  dec : List AObj → AObj → Option α
  ok : ∀ H n x y, dec H x = some y → CoObj H n x (enc y)
  ren : ∀ τ y, (enc y).ren τ = enc y
  nb : ∀ n y, objNb n (enc y)

def daT (imm : Bool) (r : Row α) : AObj → Option (List α)
  | .acc imm' sz rows => if imm' = imm ∧ sz = r.sz then mapO r.dec rows else none
  | _ => none
def oaT (imm : Bool) (r : Row α) : OTy (List α) where
  enc xs := .acc imm r.sz (mp r.enc xs)
  dec _ := daT imm r
  ok H n x y h := by
    unfold daT at h
    split at h
    · split at h
      · rename_i hc
        obtain ⟨rfl, rfl⟩ := hc
        exact .inr (.inr (.inr (.inl ⟨_, _, _, _, rfl, rfl, (mapO_rows h).2, nbR_rows y⟩)))
      · cases h
    · cases h
  ren τ y := by simp only [AObj.ren]; rw [renR_of_nb τ _ (nbR_rows y)]
  nb n y := nbR_rows y
def dcT (c : Cel α) (H : List AObj) : AObj → Option α
  | .cells cs => c.dec H cs
  | _ => none
def ocT (c : Cel α) : OTy α where
  enc x := .cells (c.enc x)
  dec := dcT c
  ok H n x y h := by
    unfold dcT at h
    split at h
    · exact .inr (.inr (.inl ⟨_, _, rfl, rfl, (c.ok H n _ _ h).toCoL⟩))
    · cases h
  ren τ y := by simp only [AObj.ren]; rw [renL_of_nb τ _ (c.nb 0 y)]
  nb n y := c.nb n y
theorem oaT_f {imm : Bool} {r : Row α} : (∀ x, (oaT imm r).enc x = .acc imm r.sz (mp r.enc x)) ∧ ∀ H x, (oaT imm r).dec H x = daT imm r x := ⟨fun _ => rfl, fun _ _ => rfl⟩
theorem ocT_f {c : Cel α} : (∀ x, (ocT c).enc x = .cells (c.enc x)) ∧ ∀ H x, (ocT c).dec H x = dcT c H x := ⟨fun _ => rfl, fun _ _ => rfl⟩

structure OSpec (β : Type) where
  enc : β → List AObj
  dec : List AObj → List AObj → Option β
  ok : ∀ H n xs b, dec H xs = some b → CoH H n xs (enc b) ∧ (enc b).length = xs.length
  ren : ∀ τ b, ∀ y ∈ enc b, y.ren τ = y
  nb : ∀ n b, ∀ y ∈ enc b, objNb n y
def osN : OSpec Unit where
  enc _ := []
  dec _
    | [] => some ()
    | _ => none
  ok H n xs b h := by
    split at h
    · exact ⟨CoH.nil, rfl⟩
    · cases h
  ren _ _ := by simp
  nb _ _ := by simp
def dosC (o : OTy γ) (s : OSpec β) (H : List AObj) : List AObj → Option (γ × β)
  | x :: xs => (o.dec H x).bind fun y => (s.dec H xs).bind fun b => some (y, b)
  | [] => none
def osC (o : OTy γ) (s : OSpec β) : OSpec (γ × β) where
  enc b := o.enc b.1 :: s.enc b.2
  dec := dosC o s
  ok H n xs b h := by
    unfold dosC at h
    split at h
    · simp only [Option.bind_eq_some_iff, Option.some.injEq] at h
      obtain ⟨y, hy, b, hb, rfl⟩ := h
      obtain ⟨h1, h2⟩ := s.ok H n _ _ hb
      exact ⟨⟨o.ok H n _ _ hy, h1⟩, by simp [h2]⟩
    · cases h
  ren τ b y hy := by
    simp only [List.mem_cons] at hy
    rcases hy with rfl | hy
    · exact o.ren τ _
    · exact s.ren τ _ y hy
  nb n b y hy := by
    simp only [List.mem_cons] at hy
    rcases hy with rfl | hy
    · exact o.nb n _
    · exact s.nb n _ y hy
theorem osN_f : (∀ b, osN.enc b = []) ∧ ∀ H, osN.dec H [] = some () := ⟨fun _ => rfl, fun _ => rfl⟩
theorem osC_f {o : OTy γ} {s : OSpec β} : (∀ b, (osC o s).enc b = o.enc b.1 :: s.enc b.2) ∧ ∀ H xs, (osC o s).dec H xs = dosC o s H xs := ⟨fun _ => rfl, fun _ _ => rfl⟩

structure RSpec (β α : Type) where
  enc : β → α → List AV
  dec : β → List AObj → List AV → Option α
  need : Nat
  ok : ∀ b H n xs a, need ≤ n → dec b H xs = some a → CoL H n xs (enc b a)
def rsN : RSpec β Unit where
  enc _ _ := []
  dec _ _
    | [] => some ()
    | _ => none
  need := 0
  ok b H n xs a _ h := by
    split at h
    · exact CoL.nil
    · cases h
def drsT (t : Ty γ) (s : RSpec β α) (b : β) (H : List AObj) : List AV → Option (γ × α)
  | x :: xs => (t.dec H x).bind fun y => (s.dec b H xs).bind fun a => some (y, a)
  | [] => none
def rsT (t : Ty γ) (s : RSpec β α) : RSpec β (γ × α) where
  enc b a := t.enc a.1 :: s.enc b a.2
  dec := drsT t s
  need := s.need
  ok b H n xs a hn h := by
    unfold drsT at h
    split at h
    · simp only [Option.bind_eq_some_iff, Option.some.injEq] at h
      obtain ⟨y, hy, a, ha, rfl⟩ := h
      exact CoL.cons (t.ok H n _ _ hy) (s.ok b H n _ _ hn ha)
    · cases h
def drsA (k : Nat) (len : β → Nat) (s : RSpec β α) (b : β) (H : List AObj) : List AV → Option α
  | .acc l m :: xs => if l = k ∧ m = len b then s.dec b H xs else none
  | _ => none
def rsA (k : Nat) (len : β → Nat) (s : RSpec β α) : RSpec β α where
  enc b a := .acc k (len b) :: s.enc b a
  dec := drsA k len s
  need := max (k + 1) s.need
  ok b H n xs a hn h := by
    unfold drsA at h
    split at h
    · split at h
      · rename_i hc
        obtain ⟨rfl, rfl⟩ := hc
        exact CoL.cons (Co.same (show _ < n by omega)) (s.ok b H n _ _ (by omega) h)
      · cases h
    · cases h
theorem rsN_f : (∀ (b : β) a, rsN.enc b a = []) ∧ (∀ (b : β) H, rsN.dec b H [] = some ()) ∧ (rsN : RSpec β Unit).need = 0 := ⟨fun _ _ => rfl, fun _ _ => rfl, rfl⟩
theorem rsT_f {t : Ty γ} {s : RSpec β α} : (∀ b a, (rsT t s).enc b a = t.enc a.1 :: s.enc b a.2) ∧ (∀ b H xs, (rsT t s).dec b H xs = drsT t s b H xs) ∧ (rsT t s).need = s.need := ⟨fun _ _ => rfl, fun _ _ _ => rfl, rfl⟩
theorem rsA_f {k : Nat} {len : β → Nat} {s : RSpec β α} : (∀ b a, (rsA k len s).enc b a = .acc k (len b) :: s.enc b a) ∧ (∀ b H xs, (rsA k len s).dec b H xs = drsA k len s b H xs) ∧ (rsA k len s).need = max (k + 1) s.need := ⟨fun _ _ => rfl, fun _ _ _ => rfl, rfl⟩
end objs

def tupOf : List AV → AV
  | [y] => y
  | ys => .tup ys

theorem CoH.take {H : List AObj} {n : Nat} : ∀ {xs ys : List AObj} (k : Nat), CoH H n (xs.take k) ys → CoH H n xs ys
  | _, [], _, _ => CoH.nil
  | [], _ :: _, k, h => by cases k <;> exact h.elim
  | x :: xs, y :: ys, 0, h => h.elim
  | x :: xs, y :: ys, k + 1, h => ⟨h.1, CoH.take k h.2⟩

section runG
variable {R : Type} {M : Mach R}

def ImpE (σ σ' : AState) : Prop := ∀ (C : Ctx) (φ : Nat → Value) (tmps : Array Value) (w : World), Sim C φ σ { tmps, defers := [] } w → ∃ φ', Sim C φ' σ' { tmps, defers := [] } w
theorem Imp.e {σ σ' : AState} (h : Imp σ σ') : ImpE σ σ' := fun C φ tmps w S => h C φ _ w S
theorem ImpE.trans {σ σ' σ'' : AState} (h : ImpE σ σ') (h' : ImpE σ' σ'') : ImpE σ σ'' := fun C φ tmps w S =>
  let ⟨φ', S'⟩ := h C φ tmps w S
  h' C φ' tmps w S'
theorem fnG_run {f : FuncId} {fn : Func} {args : List AV} {H : List AObj} {ys : List AV} {H' : List AObj} {r : R} {n : Nat} {rs : List ResultVar} (G : Good M) (hf : M.P.funcs[f]? = some fn) (hb : fn.body = some M.body) (hne : (fn.name != "runtime.NumGoroutine") = true)
    (hnb : nbL H.length args) (hnbH : ∀ x ∈ H, objNb H.length x) (hn : fn.ntmps = n) (hrs : fn.results = rs.toArray)
    (hout : ∀ σ, M.out σ = some r → ∃ xs, resList M.P σ rs = some xs ∧ ImpE ⟨xs, σ.heap, σ.low⟩ ⟨ys, H', σ.low⟩)
    (h : run M [.at []] { slots := args ++ List.replicate (n - args.length) .any, heap := H, low := H.length } = some r) : FnG M.P f args H (fun o H'' => o = .ret (tupOf ys) ∧ H'' = H') := by
  refine fnG_of_body hf hb hne hnb hnbH hn hrs ?_
  refine run_sound G h fun σ' hs => ?_
  obtain ⟨xs, hx, himp⟩ := hout σ' hs
  have key : ∃ x, resAV M.P σ' rs = some x ∧ ∃ r H'', Export σ' x r H'' ∧ ((AOut.ret r) = .ret (tupOf ys) ∧ H'' = H') := by
    have exp : ∀ (x : AV), (∀ C φ a w, Sim C φ σ' a w → ∀ v, Rep (C.env φ σ'.heap w) x v → ∃ vs : List Value, RepL (C.env φ σ'.heap w) xs vs ∧ ∀ E, RepL E ys vs → Rep E (tupOf ys) v) → Export σ' x (tupOf ys) H' := by
      intro x hx2 C φ a w S v hv
      obtain ⟨vs, hvs, hback⟩ := hx2 C φ a w S v hv
      have S0 : Sim C φ ⟨xs, σ'.heap, σ'.low⟩ { tmps := vs.toArray, defers := [] } w := { S with slots := by simpa using hvs, defers := DefOK.nil }
      obtain ⟨φ', S1⟩ := himp C φ vs.toArray w S0
      exact ⟨φ', { S1 with slots := rfl, defers := DefOK.nil }, hback _ (by simpa using S1.slots)⟩
    unfold resAV
    rw [hx]
    match xs, hx, exp with
    | [x], hx, exp =>
      refine ⟨x, rfl, _, _, exp x ?_, rfl, rfl⟩
      intro C φ a w S v hv
      refine ⟨[v], ⟨v, [], rfl, hv, rfl⟩, fun E hr => ?_⟩
      have := hr.length
      match ys, this, hr with
      | [y], _, ⟨u, us, he, h1, h2⟩ =>
        simp only [List.cons.injEq] at he
        obtain ⟨rfl, _⟩ := he
        exact h1
    | [], hx, exp =>
      refine ⟨.tup [], rfl, _, _, exp _ ?_, rfl, rfl⟩
      rintro C φ a w S v ⟨vs, rfl, hvs⟩
      refine ⟨vs.toList, hvs, fun E hr => ?_⟩
      have h1 := hr.length
      have h2 := hvs.length
      match ys, hr, h1 with
      | [], hr, _ => exact ⟨vs, rfl, hr⟩
      | [_], hr, h1 => rw [h1] at h2; simp at h2
      | _ :: _ :: _, hr, h1 => rw [h1] at h2; simp at h2
    | x :: x' :: xs, hx, exp =>
      refine ⟨.tup (x :: x' :: xs), rfl, _, _, exp _ ?_, rfl, rfl⟩
      rintro C φ a w S v ⟨vs, rfl, hvs⟩
      refine ⟨vs.toList, hvs, fun E hr => ?_⟩
      have h1 := hr.length
      have h2 := hvs.length
      match ys, hr, h1 with
      | [], hr, h1 => rw [h1] at h2; simp at h2
      | [_], hr, h1 => rw [h1] at h2; simp at h2
      | _ :: _ :: _, hr, _ => exact ⟨vs, rfl, hr⟩
  exact ⟨key, key⟩
end runG

section outG
variable {α β γ : Type}
def outG (P : Program) (rs : List ResultVar) (os : OSpec β) (s : RSpec β α) (low : Nat) (σ : AState) : Option (β × α) :=
  (resList P σ rs).bind fun xs => (os.dec σ.heap (σ.heap.take low)).bind fun b => (s.dec b σ.heap xs).bind fun a => bif (σ.low == low) && decide (s.need ≤ low) && decide (low ≤ σ.heap.length) then some (b, a) else none

end outG

section callG
theorem setAll_set : ∀ (ls : List Nat) (G : List AObj) (ys : List AObj) (l : Nat) (z : AObj), l ∉ ls → (setAll G ls ys).set l z = setAll (G.set l z) ls ys
  | [], _, _, _, _, _ => by simp [setAll]
  | _ :: _, _, [], _, _, _ => by simp [setAll]
  | k :: ls, G, y :: ys, l, z, h => by
    simp only [List.mem_cons, not_or] at h
    rw [setAll, setAll, setAll_set ls _ ys l z h.2, List.set_comm _ _ (fun e => h.1 e.symm)]
theorem setAll_setAll : ∀ (ls : List Nat) (G : List AObj) (ys ys' : List AObj), ls.Nodup → ls.length ≤ ys'.length → setAll (setAll G ls ys) ls ys' = setAll G ls ys'
  | [], _, _, _, _, _ => by simp [setAll]
  | _ :: _, _, _, [], _, h => by simp at h
  | l :: ls, G, [], y' :: ys', hnd, h => by simp [setAll]
  | l :: ls, G, y :: ys, y' :: ys', hnd, h => by
    rw [List.nodup_cons] at hnd
    simp only [List.length_cons, Nat.add_le_add_iff_right] at h
    simp only [setAll]
    rw [setAll_set ls _ ys l y' hnd.1, List.set_set, setAll_setAll ls _ ys ys' hnd.2 h]
theorem coH_of_get {H : List AObj} {n : Nat} : ∀ {xs ys : List AObj}, (∀ (k : Nat) (y : AObj), ys[k]? = some y → ∃ x, xs[k]? = some x ∧ CoObj H n x y) → CoH H n xs ys
  | _, [], _ => CoH.nil
  | [], y :: ys, h => by obtain ⟨x, hx, _⟩ := h 0 y (by simp); simp at hx
  | x :: xs, y :: ys, h => by
    obtain ⟨x', hx, hc⟩ := h 0 y (by simp)
    simp at hx; subst hx
    exact ⟨hc, coH_of_get fun k z hz => by have := h (k + 1) z (by simpa using hz); simpa using this⟩
theorem CoL.append {H : List AObj} {n : Nat} : ∀ {xs ys us vs : List AV}, CoL H n xs ys → CoL H n us vs → CoL H n (xs ++ us) (ys ++ vs)
  | [], _, _, _, rfl, h => h
  | _ :: _, _, _, _, ⟨y, zs, rfl, h, hs⟩, h2 => ⟨y, zs ++ _, rfl, h, CoL.append hs h2⟩

theorem callG {P : Program} {f : FuncId} {σ : AState} {cargs args : List AV} {Ys Ys' : List AObj} {r : AV} {ρ : List Nat} (hG : FnG P f args Ys (fun o H' => o = .ret r ∧ H' = Ys')) (hnd : ρ.Nodup) (hlen : ρ.length = Ys.length) (hlen' : ρ.length ≤ Ys'.length)
    (hobj : ∀ (i k : Nat), ρ[i]? = some k → ∃ x y, σ.heap[k]? = some x ∧ Ys[i]? = some y ∧ CoObj σ.heap σ.heap.length x y) (hargs : CoL σ.heap σ.heap.length cargs (renL (backTo ρ σ.heap.length) args))
    (hren : ∀ y ∈ Ys ++ Ys', ∀ τ, y.ren τ = y) : CallA P f cargs σ (fun o H' => o = .ret (r.ren (backTo ρ σ.heap.length)) ∧ H' = setAll σ.heap ρ Ys' ++ Ys'.drop ρ.length) := by
  refine ⟨hG.1, fun C φ a w hP S vs hr => ?_⟩
  let H1 := setAll σ.heap ρ Ys
  have hl1 : H1.length = σ.heap.length := setAll_length _ _ _
  have S0 : Sim C φ ⟨σ.slots ++ cargs, σ.heap, σ.low⟩ { tmps := a.tmps ++ vs, defers := a.defers } w := { S with slots := by simpa using S.slots.append hr, defers := S.defers }
  have hat : ∀ (i k : Nat), ρ[i]? = some k → ∃ x y, σ.heap[k]? = some x ∧ Ys[i]? = some y ∧ CoObj σ.heap σ.heap.length x y ∧ H1[k]? = some y := by
    intro i k hi
    obtain ⟨x, y, hx, hy, hc⟩ := hobj i k hi
    exact ⟨x, y, hx, hy, hc, setAll_at ρ σ.heap Ys i k y hnd hi hy (List.getElem?_eq_some_iff.1 hx).1⟩
  have hw : Weak ⟨σ.slots ++ cargs, σ.heap, σ.low⟩ ⟨σ.slots ++ renL (backTo ρ σ.heap.length) args, H1, σ.low⟩ := by
    refine ⟨⟨rfl, by show σ.low ≤ H1.length; rw [hl1]; exact S.low.2⟩, ?_, ?_⟩
    · show CoL σ.heap H1.length _ _
      rw [hl1]
      exact CoL.append (CoL.same (RepL.nb _ _ S.slots)) hargs
    · show CoH σ.heap H1.length σ.heap H1
      rw [hl1]
      refine coH_of_get fun k y hy => ?_
      by_cases hk : k ∈ ρ
      · obtain ⟨i, hi⟩ := List.getElem?_of_mem hk
        obtain ⟨x, y', hx, _, hc, hy'⟩ := hat i k hi
        rw [hy'] at hy; cases hy
        exact ⟨x, hx, hc⟩
      · have hy2 : σ.heap[k]? = some y := by rw [← hy]; exact (setAll_other ρ σ.heap Ys k hk).symm
        exact ⟨y, hy2, .inr (.inl ⟨rfl, objNb_rep (S.objs k y hy2)⟩)⟩
  obtain ⟨φ', S1⟩ := hw.imp C φ _ w S0
  have hsl := S1.slots
  simp only [Array.toList_append] at hsl
  have hsz : a.tmps.toList.length = σ.slots.length := S.slots.length
  have h1 := hsl.take σ.slots.length
  have h2 := hsl.drop σ.slots.length
  rw [List.take_left' rfl, List.take_left' hsz] at h1
  rw [List.drop_left' rfl, List.drop_left' hsz] at h2
  have S2 : Sim C φ' { σ with heap := H1 } a w := { S1 with slots := h1, defers := S1.defers }
  have hcall : CallA P f (renL (backTo ρ H1.length) args) { σ with heap := H1 } (fun o H' => o = .ret (r.ren (backTo ρ H1.length)) ∧ H' = setAll σ.heap ρ Ys' ++ Ys'.drop ρ.length) := by
    refine callA_of_fnG (σ := { σ with heap := H1 }) hG ρ hlen hnd (SubL.refl _) ?_ ?_
    · intro i k x hi hx
      obtain ⟨x', y, _, hy, _, hy'⟩ := hat i k hi
      rw [hy] at hx; cases hx
      show H1[k]? = some (x.ren _)
      rw [hy', hren x (List.mem_append.2 (.inl (List.mem_of_getElem? hy)))]
    · rintro o H' ⟨rfl, rfl⟩
      refine ⟨rfl, ?_⟩
      have hid : ∀ τ, H'.map (AObj.ren τ) = H' := by
        intro τ
        have : H'.map (AObj.ren τ) = H'.map id := List.map_congr_left fun y hy => hren y (List.mem_append.2 (.inr hy)) τ
        rw [this, List.map_id]
      have hid2 : ∀ τ, (H'.drop ρ.length).map (AObj.ren τ) = H'.drop ρ.length := by
        intro τ; rw [List.map_drop, hid]
      show heapBack ρ H1 H' = _
      unfold heapBack
      rw [hid, hid2]
      simp only [H1]
      rw [setAll_setAll ρ σ.heap Ys H' hnd hlen']
  rw [hl1] at hcall
  exact hcall.2 C φ' a w hP S2 vs h2
end callG
end Go.Abs
namespace Go.Abs

section args
variable {α β γ : Type}
structure ASpec (β α : Type) where
  enc : β → α → List AV
  dec : List Nat → β → List AObj → List AV → Option α
  ok : ∀ ρ b H xs a, dec ρ b H xs = some a → CoL H H.length xs (renL (backTo ρ H.length) (enc b a))
def asN : ASpec β Unit where
  enc _ _ := []
  dec _ _ _
    | [] => some ()
    | _ => none
  ok ρ b H xs a h := by
    split at h
    · exact CoL.nil
    · cases h
def dasT (t : Ty γ) (s : ASpec β α) (ρ : List Nat) (b : β) (H : List AObj) : List AV → Option (γ × α)
  | x :: xs => (t.dec H x).bind fun y => (s.dec ρ b H xs).bind fun a => some (y, a)
  | [] => none
def asT (t : Ty γ) (s : ASpec β α) : ASpec β (γ × α) where
  enc b a := t.enc a.1 :: s.enc b a.2
  dec := dasT t s
  ok ρ b H xs a h := by
    unfold dasT at h
    split at h
    · simp only [Option.bind_eq_some_iff, Option.some.injEq] at h
      obtain ⟨y, hy, a, ha, rfl⟩ := h
      refine CoL.cons ?_ (s.ok ρ b H _ _ ha)
      rw [ren_of_nb _ _ (t.nb 0 y)]
      exact t.ok H _ _ _ hy
    · cases h
def dasP (k : Nat) (s : ASpec β α) (ρ : List Nat) (b : β) (H : List AObj) : List AV → Option α
  | .ptr l off :: xs => if off = 0 ∧ ρ[k]? = some l ∧ l < H.length then s.dec ρ b H xs else none
  | _ => none
theorem backTo_at {ρ : List Nat} {n k l : Nat} (h : ρ[k]? = some l) : backTo ρ n k = l := by
  have hk : k < ρ.length := (List.getElem?_eq_some_iff.1 h).1
  unfold backTo
  rw [if_pos hk, List.getD, h]; rfl
def asP (k : Nat) (s : ASpec β α) : ASpec β α where
  enc b a := .ptr k 0 :: s.enc b a
  dec := dasP k s
  ok ρ b H xs a h := by
    unfold dasP at h
    split at h
    · split at h
      · rename_i hc
        obtain ⟨rfl, hc, hl⟩ := hc
        refine CoL.cons ?_ (s.ok ρ b H _ _ h)
        show Co H H.length _ (.ptr (backTo ρ H.length k) 0)
        rw [backTo_at hc]
        exact Co.same hl
      · cases h
    · cases h
def dasA (k : Nat) (len : β → Nat) (s : ASpec β α) (ρ : List Nat) (b : β) (H : List AObj) : List AV → Option α
  | .acc l m :: xs => if m = len b ∧ ρ[k]? = some l ∧ l < H.length then s.dec ρ b H xs else none
  | _ => none
def asA (k : Nat) (len : β → Nat) (s : ASpec β α) : ASpec β α where
  enc b a := .acc k (len b) :: s.enc b a
  dec := dasA k len s
  ok ρ b H xs a h := by
    unfold dasA at h
    split at h
    · split at h
      · rename_i hc
        obtain ⟨rfl, hc, hl⟩ := hc
        refine CoL.cons ?_ (s.ok ρ b H _ _ h)
        show Co H H.length _ (.acc (backTo ρ H.length k) _)
        rw [backTo_at hc]
        exact Co.same hl
      · cases h
    · cases h
theorem asN_f : (∀ (b : β) a, asN.enc b a = []) ∧ (∀ ρ (b : β) H, asN.dec ρ b H [] = some ()) := ⟨fun _ _ => rfl, fun _ _ _ => rfl⟩
theorem asT_f {t : Ty γ} {s : ASpec β α} : (∀ b a, (asT t s).enc b a = t.enc a.1 :: s.enc b a.2) ∧ (∀ ρ b H xs, (asT t s).dec ρ b H xs = dasT t s ρ b H xs) := ⟨fun _ _ => rfl, fun _ _ _ _ => rfl⟩
theorem asP_f {k : Nat} {s : ASpec β α} : (∀ b a, (asP k s).enc b a = .ptr k 0 :: s.enc b a) ∧ (∀ ρ b H xs, (asP k s).dec ρ b H xs = dasP k s ρ b H xs) := ⟨fun _ _ => rfl, fun _ _ _ _ => rfl⟩
theorem asA_f {k : Nat} {len : β → Nat} {s : ASpec β α} : (∀ b a, (asA k len s).enc b a = .acc k (len b) :: s.enc b a) ∧ (∀ ρ b H xs, (asA k len s).dec ρ b H xs = dasA k len s ρ b H xs) := ⟨fun _ _ => rfl, fun _ _ _ _ => rfl⟩
end args

def nameOf : AV → Option Nat
  | .ptr l _ => some l
  | .acc l _ => some l
  | _ => none
def nameAt (args : List AV) (i : Nat) : Option Nat := (args[i]?).bind nameOf
def nodupB : List Nat → Bool
  | [] => true
  | x :: xs => !xs.contains x && nodupB xs
theorem nodupB_ok : ∀ {xs : List Nat}, nodupB xs = true → xs.Nodup
  | [], _ => List.nodup_nil
  | x :: xs, h => by
    simp only [nodupB, Bool.and_eq_true, Bool.not_eq_true', List.contains_eq_mem, decide_eq_false_iff_not] at h
    exact List.nodup_cons.2 ⟨h.1, nodupB_ok h.2⟩
def getAt (H : List AObj) (k : Nat) : Option AObj := H[k]?

section entG
variable {α β α' β' : Type}
def entG (pos : List Nat) (os : OSpec β) (as : ASpec β α) (os' : OSpec β') (rs : RSpec β' α') (F : β → α → Option (β' × α')) : Ent := fun args H =>
  (mapO (nameAt args) pos).bind fun ρ => bif nodupB ρ then (mapO (getAt H) ρ).bind fun xs => (os.dec H xs).bind fun b => (as.dec ρ b H args).bind fun a => (F b a).bind fun r =>
    bif decide (ρ.length ≤ (os'.enc r.1).length) then some ((tupOf (rs.enc r.1 r.2)).ren (backTo ρ H.length), setAll H ρ (os'.enc r.1) ++ (os'.enc r.1).drop ρ.length) else none else none

theorem mapO_get {H : List AObj} : ∀ {ρ : List Nat} {xs : List AObj}, mapO (getAt H) ρ = some xs → ρ.length = xs.length ∧ ∀ (i k : Nat), ρ[i]? = some k → ∃ x, xs[i]? = some x ∧ H[k]? = some x
  | [], xs, h => by simp only [mapO, Option.some.injEq] at h; subst h; simp
  | k :: ρ, xs, h => by
    simp only [mapO, Option.bind_eq_some_iff, Option.some.injEq] at h
    obtain ⟨x, hx, ys, hys, rfl⟩ := h
    obtain ⟨h1, h2⟩ := mapO_get hys
    refine ⟨by simp [h1], fun i q hi => ?_⟩
    cases i with
    | zero => simp at hi; subst hi; exact ⟨x, by simp, hx⟩
    | succ i => simp at hi; obtain ⟨y, hy, hy'⟩ := h2 i q hi; exact ⟨y, by simpa using hy, hy'⟩

end entG

abbrev EntE := List AV → List AObj → Option Eff
section entE
variable {α α' β' : Type}
theorem Co1L.toSub {n : Nat} : ∀ {xs ys : List AV}, CoL [] n xs ys → SubL xs ys
  | [], _, rfl => SubL.nil
  | _ :: _, _, ⟨y, zs, rfl, h, hs⟩ => SubL.cons h.toSub (Co1L.toSub hs)
noncomputable def entE (as : ASpec Unit α) (os' : OSpec β') (rs : RSpec β' α') (F : α → Option (β' × α')) : EntE := fun args H =>
  pcond (nbL 0 args) ((as.dec [] () [] args).bind fun a => (F a).bind fun r => bif (os'.enc r.1).isEmpty then none else some { val := (tupOf (rs.enc r.1 r.2)).ren (backTo [] H.length), nw := os'.enc r.1 })
noncomputable def entR (e : EntD) : EntE := fun args H => (vwL H args).bind fun p => (e p.1).bind fun r => some { val := r, rd := p.2 }
theorem entR_ok {P : Program} {f : FuncId} {e : EntD} (h : EntDOK P f e) : ∀ (args : List AV) (σ : AState) (ef : Eff), entR e args σ.heap = some ef → CallL P f args σ ef := by
  intro args σ ef he
  simp only [entR, Option.bind_eq_some_iff] at he
  obtain ⟨⟨ds, ns⟩, hv, r, hr, he⟩ := he
  cases he
  refine ⟨⟨fun l hl => vwL_lt hv l hl, by simp⟩, fun σ' hrd _ => ?_⟩
  have hv' := vwL_local hv hrd
  obtain ⟨hen, hc⟩ := callA_of_fnC (σ := σ') (K := fun o H' => o = .ret r ∧ H' = σ'.heap) (h ds r hr) (by rintro _ rfl; exact ⟨rfl, rfl⟩)
  refine ⟨hen, fun C φ a w hP S vs hrep => (hc C φ a w hP S vs (vwL_sound S hv' hrep)).mono ?_⟩
  rintro e' w' ⟨o, φ', H', ⟨rfl, rfl⟩, h1, h2⟩
  exact ⟨_, φ', _, ⟨rfl, by simp [applyUps]⟩, h1, h2⟩
def tabE : List (Nat × EntE) → FuncId → List AV → List AObj → Option Eff
  | [], _, _, _ => none
  | (g, e) :: t, f, args, H => if f = g then e args H else tabE t f args H
def tabI : List Nat → FuncId → Bool
  | [], _ => false
  | g :: t, f => f == g || tabI t f
theorem noE_ok {P : Program} : ∀ (f : FuncId) (args : List AV) (σ : AState) (e : Eff), (fun _ _ _ => none : FuncId → List AV → List AObj → Option Eff) f args σ.heap = some e → CallL P f args σ e := by
  intro f args σ e h; cases h
theorem tabE_cons_ok {P : Program} {g : Nat} {e : EntE} {t : List (Nat × EntE)} (h1 : ∀ args σ ef, e args σ.heap = some ef → CallL P g args σ ef)
    (h2 : ∀ (f : FuncId) (args : List AV) (σ : AState) (ef : Eff), tabE t f args σ.heap = some ef → CallL P f args σ ef) : ∀ (f : FuncId) (args : List AV) (σ : AState) (ef : Eff), tabE ((g, e) :: t) f args σ.heap = some ef → CallL P f args σ ef := by
  intro f args σ ef h
  simp only [tabE] at h
  split at h
  · rename_i hg; subst hg; exact h1 _ _ _ h
  · exact h2 _ _ _ _ h
end entE

section handout
variable {C : Ctx} {φ : Nat → Value} {σ : AState} {a : Act} {w : World}

variable {α γ : Type}
noncomputable def outH (P : Program) (rs : List ResultVar) (j : Nat) (r : Row γ) (s : RSpec (List γ × Unit) α) (σ : AState) : Option ((List γ × Unit) × α) :=
  (resList P σ rs).bind fun xs => outH1 (immV (gSlot j r.sz true ⟨xs, σ.heap, 0⟩) (gSlot j r.sz true ⟨xs, σ.heap, 0⟩).slots[j]?) j r s σ.low
where
  outH1 (τ : AState) (j : Nat) (r : Row γ) (s : RSpec (List γ × Unit) α) (low : Nat) : Option ((List γ × Unit) × α) :=
    match τ.slots[j]? with
    | some (.acc l _) => match τ.heap[l]? with
      | some y => pcond (low = 0 ∧ objNb 0 y ∧ nbL 1 (renL (outX 0 l) τ.slots)) (((osC (oaT true r) osN).dec [y] [y]).bind fun b => (s.dec b [y] (renL (outX 0 l) τ.slots)).bind fun a => bif decide (s.need ≤ 1) then some (b, a) else none)
      | none => none
    | _ => none

end handout
end Go.Abs
namespace Go.Abs

def entGh (i : Nat) (imm : Bool) (sz : Nat) (e : Ent) : Ent := fun args H =>
  match args[i]? with
  | some (.lst true _ []) => e (args.set i (.acc H.length 0)) (H ++ [.acc imm sz []])
  | _ => e args H

def entAlt (e e' : Ent) : Ent := fun args H => (e args H).or (e' args H)
end Go.Abs
namespace Go.Abs

section
variable {R : Type} {M : Mach R} {k : List Kt} {σ : AState}
theorem stepY_opX {ops : Array Oper} {o : Oper} {rest : List Oper} : stepY M ops o rest k σ none = stepE M ops o.dst rest k σ (opX M.P σ o.op) := by rw [← opX_eq]; rfl
theorem pcond_refl {α : Type} {a : α} {x : Option R} : pcond (a = a) x = x := by simp [pcond]
theorem stepDC_opX {p : List Nat} {o : Oper} {rest : List Oper} {j : Nat} {tr : List Tr} : stepDC M p o rest j tr k σ none = stepDE M p o.dst rest j tr k σ (opX M.P σ o.op) := by rw [← opX_eq]; rfl
end

section
variable {R : Type} {M : Mach R} {k : List Kt} {σ : AState}
theorem stepE_cond {ops : Array Oper} {dst : Option Tmp} {rest : List Oper} {b : Bool} {x y : Option Eff} : stepE M ops dst rest k σ (bif b then x else y) = bif b then stepE M ops dst rest k σ x else stepE M ops dst rest k σ y := by cases b <;> rfl
theorem stepA_cond {ops : Array Oper} {dst : Option Tmp} {rest : List Oper} {b : Bool} {x y : Option (AV × List AObj)} : stepA M ops dst rest k σ (bif b then x else y) = bif b then stepA M ops dst rest k σ x else stepA M ops dst rest k σ y := by cases b <;> rfl
theorem stepDE_cond {p : List Nat} {dst : Option Tmp} {rest : List Oper} {j : Nat} {tr : List Tr} {b : Bool} {x y : Option Eff} : stepDE M p dst rest j tr k σ (bif b then x else y) = bif b then stepDE M p dst rest j tr k σ x else stepDE M p dst rest j tr k σ y := by cases b <;> rfl
theorem stepDA_cond {p : List Nat} {dst : Option Tmp} {rest : List Oper} {j : Nat} {tr : List Tr} {b : Bool} {x y : Option AV} : stepDA M p dst rest j tr k σ (bif b then x else y) = bif b then stepDA M p dst rest j tr k σ x else stepDA M p dst rest j tr k σ y := by cases b <;> rfl
end
theorem undef_eq : undef = .tuple #[] := rfl
theorem not_true' : (¬ True) = False := by simp
theorem not_false' : (¬ False) = True := by simp
theorem int_nonneg (n : Nat) : (0 ≤ (n : Int)) = True := by simp
theorem int_nonneg0 : ((0 : Int) ≤ 0) = True := by simp
theorem cond_not' {α : Type} {b : Bool} {x y : α} : (bif !b then x else y) = bif b then y else x := by cases b <;> rfl
theorem cond_same {α : Type} {b : Bool} {x : α} : (bif b then x else x) = x := by cases b <;> rfl
theorem cond_tf {b : Bool} : (bif b then true else false) = b := by cases b <;> rfl
theorem cond_ft {b : Bool} : (bif b then false else true) = !b := by cases b <;> rfl
theorem beq_tt {b : Bool} : (b == true) = b := by cases b <;> rfl
theorem beq_ff {b : Bool} : (b == false) = !b := by cases b <;> rfl
theorem beq_tt' {b : Bool} : (true == b) = b := by cases b <;> rfl
theorem beq_ff' {b : Bool} : (false == b) = !b := by cases b <;> rfl
theorem bind_ite' {α β : Type} {p : Prop} [Decidable p] {a b : Option α} {f : α → Option β} : (if p then a else b).bind f = bif decide p then a.bind f else b.bind f := by
  by_cases h : p <;> simp [h]
theorem mp_get {α β : Type} (f : α → β) (xs : List α) (i : Nat) : (mp f xs)[i]? = Option.map f xs[i]? := by rw [mp_eq, List.getElem?_map]
theorem mp_set {α β : Type} (f : α → β) (xs : List α) (i : Nat) (x : α) : (mp f xs).set i (f x) = mp f (xs.set i x) := by rw [mp_eq, mp_eq, List.map_set]
theorem pcond_room {R : Type} {a b : Nat} {x : Option R} : pcond (room a b) x = bif decide (a * b ≤ 17592186044416) then x else none := by
  unfold room
  exact pcond_dec
theorem pcond_ror {R : Type} {a b : Nat} {x : Option R} : pcond (a = 0 ∨ 0 < b) x = bif decide (a = 0 ∨ 0 < b) then x else none := pcond_dec
theorem pcond_ilt {R : Type} {a b : Int} {x : Option R} : pcond (a < b) x = bif decide (a < b) then x else none := pcond_dec

-- bytes
theorem sb_size (s : Str) : (sb s).size = s.length := by simp [sb, ByteArray.size]
theorem sb_get (s : Str) (i : Nat) : (sb s)[i]? = s[i]? := by
  by_cases h : i < s.length
  · have h' : i < (sb s).size := by rw [sb_size]; exact h
    rw [List.getElem?_eq_getElem h, getElem?_pos (sb s) i h']
    rfl
  · have h' : ¬ i < (sb s).size := by rw [sb_size]; exact h
    rw [List.getElem?_eq_none (by omega), getElem?_neg (sb s) i h']
theorem sb_idx (s : Str) (n : Int) : idxB (sb s) n = idxA s n := by
  simp only [idxB, sb_get]; rfl
theorem sb_toList (s : Str) : (sb s).toList = s := by
  rw [ByteArray.toList_eq]; rfl
theorem sb_extract (s : Str) (a b : Nat) : (sb s).extract a b = sb ((s.take b).drop a) := by
  apply ByteArray.ext
  simp only [sb, ByteArray.data_extract]
  apply Array.ext'
  simp [Array.toList_extract, List.extract]
  rw [List.drop_take]
theorem sb_append (s t : Str) : sb s ++ sb t = sb (s ++ t) := by
  apply ByteArray.ext
  simp [sb]
theorem sb_empty : ByteArray.empty = sb [] := rfl
theorem sb_emptyL : (⟨#[]⟩ : ByteArray) = sb [] := rfl
theorem sb_lit (l : List UInt8) : (⟨l.toArray⟩ : ByteArray) = sb l := rfl

attribute [go_sem] run_nil run_blk run_ops_nil run_dops_nil behind exitK_some exitK_none stepIf_true stepIf_false run_at stepN_skip stepN_region stepN_draw stepN_seq stepN_cond stepN_block stepN_loop stepN_exit stepN_scope stepN_label stepN_ret stepN_range stepR_func stepR1_some stepR1_none stepR1_bind stepR1_cond stepJ_none stepJ_ret stepJ_exit stepJ_cond retK rdIn isRd run_rb run_rd beginX beginO stP setPs pcond_refl
  run_cut run_lp run_ops run_dops stepW_true stepW_false stepC_some stepC_none stepY_some stepY_opX yieldOf stepE_none stepE_some stepE_bind stepE_ite stepA_some stepA_none stepA_bind stepDW_true stepDW_false stepDC_some stepDC_opX stepDE_none stepDE_idle stepDE_some stepDE_bind stepDE_ite stepDA_some stepDA_none stepDA_bind stepE_cond stepA_cond stepDE_cond stepDA_cond
  sub child setB gset pcond_true pcond_and pcond_room pcond_ror pcond_ilt
attribute [go_sem low] stepIf_sym stepW_sym stepDW_sym
attribute [go_sem] mapO_nil mapO_cons mapO_append bind_map' bind_bind' bind_cond bind_none' bind_some' idxA_mp mp_length mp_take mp_drop mp_get mp_set bind_ite'  mp_isEmpty idxA_zero idxA_one idxA_two szOK dL tyL_enc tyL_dec dS_sb dI_int dB_bool dS_empty dS_emptyL tyI_enc tyI_dec tyB_enc tyB_dec tyS_enc tyS_dec dF_lit tyF_enc tyF_dec
  dI1 dB1 dS1 rowI_f rowU_f rowB_f rowS_f mapO_cells1 dC tyC_enc tyC_dec tyU_enc tyU_dec d2 d3 d4 d5 ty2_enc ty2_dec ty3_enc ty3_dec ty4_enc ty4_dec ty5_enc ty5_dec outR ent0 ent1 ent2 ent3 ent4 ent5 ent6 entD tabA tabD zA_f zK_f zT_f zL_f dLt zipZ oD_f oK_f oC_f oT_f oA_f zipO nrmZ gSlot gCell gSlots gCells nrmN tabN selO isLstS
  ixA ixS ldA ldV vwL stA opX cond_not' cond_same cond_tf cond_ft beq_tt beq_ff beq_tt' beq_ff' sb_size sb_idx sb_get sb_toList sb_append sb_extract sb_empty sb_emptyL sb_lit
attribute [go_sem] rawLd ixP selI ktab kcell nextEff
attribute [go_sem] immV_f immO_f fzX_f entE entR tabE tabI fzOne fzAll tabF rp1 rpV rpO cI_f cB_f cS_f cL_f cF_f dL1 dF1 dP tyP_enc tyP_dec dK1 dK2 dK3 tyK1_f tyK2_f tyK3_f daT dcT oaT_f ocT_f osN_f osC_f dosC rsN_f rsT_f drsT rsA_f drsA tupOf outG
  asN_f asT_f dasT asP_f dasP asA_f dasA nameOf nameAt nodupB getAt entG entGh entAlt Option.or_none Option.none_or outH outH.outH1 setAll backTo AV.ren renL renR outX
attribute [go_sem] wantedA calleeOf opEff AState.ev AState.put applyUps AV.scalar constAV fillAV rowsOf binAV aggEff eqB eq1 bound tightOf sliceAV srcRows appendAV lenAV builtinEff
  resAV resList resOne frz frzL chunks undef_eq
attribute [go_sem] List.all_cons List.all_nil Bool.and_true Bool.true_and Bool.and_false Bool.false_and if_true if_false List.getD_cons_zero List.getD_cons_succ List.length_cons List.length_nil List.replicate List.cons_append List.nil_append
  List.set_cons_zero List.set_cons_succ reduceCtorEq and_true true_and List.append_nil Nat.zero_add List.getElem?_cons_zero List.getElem?_cons_succ List.getElem?_nil Option.bind_some List.drop_zero List.drop_succ_cons List.drop_nil
  List.take_succ_cons List.take_zero List.take_nil ne_eq not_true' not_false' Option.isSome_some Option.isSome_none Option.isNone_some Option.isNone_none List.map_cons List.map_nil List.getElem?_toArray Bool.not_true Bool.not_false cond_true cond_false
  Int.toNat_natCast int_nonneg int_nonneg0 true_or or_true and_self false_or or_false List.length_map List.set_nil decide_true decide_false Bool.not_not and_false false_and
  List.length_append List.length_set List.length_replicate beq_self_eq_true
attribute [go_sem] compatP_eq opsAt regOps Eff.idle pushTr indepB disjointB List.contains_cons List.contains_nil List.isEmpty_nil List.isEmpty_cons Bool.or_false Bool.false_or Bool.or_true Bool.true_or Nat.le_refl Bool.false_eq_true Int.cast_ofNat_Int Int.toNat_zero Int.toNat_one List.flatten_cons List.flatten_nil
  List.cons.injEq Option.map_some Option.map_none
theorem nbR_append {n : Nat} : ∀ {a b : List (List AV)}, nbR n (a ++ b) = (nbR n a ∧ nbR n b)
  | [], _ => by simp [nbR]
  | x :: a, b => by simp [nbR, nbR_append (a := a), and_assoc]
theorem loadAV_lit0 {n : Nat} {c : AV} {cs : List AV} : loadAV false n (c :: cs) = some c := rfl
theorem loadAV_lit1 {n : Nat} {c : AV} {cs : List AV} : loadAV true n (c :: cs) = if n ≤ (c :: cs).length then some (.agg ((c :: cs).take n)) else none := rfl
theorem cellsOf_lit {c : AV} {cs : List AV} : cellsOf (.agg (c :: cs)) = if (c :: cs).all AV.scalar then some (c :: cs) else none := rfl
theorem cellsOf_one : (∀ b, cellsOf (.bool b) = some [.bool b]) ∧ (∀ k n, cellsOf (.int k n) = some [.int k n]) ∧ (∀ s, cellsOf (.str s) = some [.str s]) ∧ (∀ t sz r, cellsOf (.lst t sz r) = some [.lst t sz r]) ∧
    (∀ l n, cellsOf (.acc l n) = some [.acc l n]) ∧ (∀ a b c d e, cellsOf (.own a b c d e) = some [.own a b c d e]) ∧ (∀ a b, cellsOf (.ptr a b) = some [.ptr a b]) ∧ (∀ a, cellsOf (.map a) = some [.map a]) ∧
    (∀ cs, cellsOf (.pp cs) = some [.pp cs]) ∧ (∀ fn f c, cellsOf (.func fn f c) = some [.func fn f c]) ∧ (∀ t x, cellsOf (.iface t x) = some [.iface t x]) ∧ cellsOf (.raw .nilFunc) = some [.raw .nilFunc] ∧ cellsOf (.raw .nilIface) = some [.raw .nilIface] ∧
    (∀ a, cellsOf (.raw (.pointer a)) = some [.raw (.pointer a)]) ∧ (∀ a, cellsOf (.raw (.map a)) = some [.raw (.map a)]) :=
  ⟨fun _ => rfl, fun _ _ => rfl, fun _ => rfl, fun _ _ _ => rfl, fun _ _ => rfl, fun _ _ _ _ _ => rfl, fun _ _ => rfl, fun _ => rfl, fun _ => rfl, fun _ _ _ => rfl, fun _ _ => rfl, rfl, rfl, fun _ => rfl, fun _ => rfl⟩
theorem splice_lit {c : AV} {cs : List AV} {o : Nat} {xs : List AV} : splice (c :: cs) o xs = (c :: cs).take o ++ xs ++ (c :: cs).drop (o + xs.length) := rfl
theorem splice_all {cs xs : List AV} (h : xs.length = cs.length) : splice cs 0 xs = xs := by
  simp only [splice, List.take_zero, List.nil_append, Nat.zero_add, h, List.drop_length, List.append_nil]
attribute [go_sem] loadAV_lit0 loadAV_lit1 cellsOf_lit cellsOf_one splice_all
attribute [go_sem low] splice_lit
attribute [go_sem] AV.nb nbL nbR objNb nbR_append
theorem nb_if {n : Nat} {c : Prop} [Decidable c] {a : AV} : AV.nb n (if c then a else .any) = (¬ c ∨ AV.nb n a) := by
  by_cases h : c <;> simp [h, AV.nb]
theorem dL_if {α : Type} {r : Row α} {H : List AObj} {c : Prop} [Decidable c] {a : AV} : dL r H (if c then a else .any) = bif decide c then dL r H a else none := by
  by_cases h : c <;> simp [h, dL]
attribute [go_sem high] nb_if dL_if
attribute [go_sem] or_true
theorem rp1_of_nb {l : Nat} {cs : List AV} : ∀ x : AV, x.nb 0 → rp1 l cs x = x
  | .ptr _ _, h => absurd h (Nat.not_lt_zero _)
  | .any, _ | .bool _, _ | .int _ _, _ | .str _, _ | .raw _, _ | .agg _, _ | .tup _, _ | .lst _ _ _, _ | .acc _ _, _ | .own _ _ _ _ _, _ | .map _, _ | .pp _, _ | .func _ _ _, _ | .iface _ _, _ => rfl
theorem rp1L_of_nb {l : Nat} {cs : List AV} : ∀ xs : List AV, nbL 0 xs → xs.map (rp1 l cs) = xs
  | [], _ => rfl
  | x :: xs, h => by rw [List.map_cons, rp1_of_nb x h.1, rp1L_of_nb xs h.2]
theorem rpV_of_nb {l : Nat} {cs : List AV} : ∀ x : AV, x.nb 0 → rpV l cs x = x
  | .ptr _ _, h => absurd h (Nat.not_lt_zero _)
  | .func _ f c, h => by simp only [rpV]; rw [rp1L_of_nb f h.1, rp1L_of_nb c h.2]
  | .any, _ | .bool _, _ | .int _ _, _ | .str _, _ | .raw _, _ | .agg _, _ | .tup _, _ | .lst _ _ _, _ | .acc _ _, _ | .own _ _ _ _ _, _ | .map _, _ | .pp _, _ | .iface _ _, _ => rfl
theorem rpVL_of_nb {l : Nat} {cs : List AV} : ∀ xs : List AV, nbL 0 xs → xs.map (rpV l cs) = xs
  | [], _ => rfl
  | x :: xs, h => by rw [List.map_cons, rpV_of_nb x h.1, rpVL_of_nb xs h.2]
end Go.Abs
namespace Go.Abs
def flatFits (P : Program) : Nat → List Field → List AV → List AV → Prop
  | _, [], [], [] => True
  | o, f :: fs, c :: cs, d :: ds => (f.name ≠ "_" ∧ f.offset = o ∧ P.plainKey f.type = true ∧ (match c, d with
    | .int k _, .int k' _ => k = k' ∧ ∃ q, P.underlying f.type = some (.int q)
    | .bool _, .bool _ => P.underlying f.type = some .bool
    | .str _, .str _ => P.underlying f.type = some .string
    | _, _ => False)) ∧ flatFits P (o + 1) fs cs ds
  | _, _, _, _ => False

theorem eqFields_flat {P : Program} {E : Env} {vs us : Array Value} {w : World} {d : Nat} : ∀ (fs : List Field) (o : Nat) (cs ds : List AV), flatFits P o fs cs ds → RepL E cs (vs.toList.drop o) → RepL E ds (us.toList.drop o) →
    (Op.eqFields (d + 1) vs us fs).run P w = .ok (eqB cs ds) w
  | [], _, [], [], _, _, _ => by simp [Op.eqFields, eqB]
  | [], _, _ :: _, _, h, _, _ => h.elim
  | [], _, [], _ :: _, h, _, _ => h.elim
  | _ :: _, _, [], _, h, _, _ => h.elim
  | _ :: _, _, _ :: _, [], h, _, _ => h.elim
  | f :: fs, o, c :: cs, e :: ds, ⟨⟨h1, h2, h3, h4⟩, h5⟩, r1, r2 => by
    obtain ⟨u, us', e1, r1, r1'⟩ := r1
    obtain ⟨v, vs', e2, r2, r2'⟩ := r2
    have g1 : vs[f.offset]? = some u := by
      have := congrArg (fun l : List Value => l[0]?) e1
      rw [h2]; simpa using this
    have g2 : us[f.offset]? = some v := by
      have := congrArg (fun l : List Value => l[0]?) e2
      rw [h2]; simpa using this
    have t1 : vs.toList.drop (o + 1) = us' := by
      have := congrArg List.tail e1
      simpa using this
    have t2 : us.toList.drop (o + 1) = vs' := by
      have := congrArg List.tail e2
      simpa using this
    have ih := eqFields_flat (d := d) (w := w) fs (o + 1) cs ds h5 (by rw [t1]; exact r1') (by rw [t2]; exact r2')
    have hone : (Op.equalIn (d + 1) f.type u v).run P w = .ok (eq1 c e) w := by
      cases c <;> cases e <;> try exact h4.elim
      · cases r1; cases r2; exact run_equalIn_bool _ d f.type _ _ h4
      · obtain ⟨rfl, q, hq⟩ := h4
        cases r1; cases r2; exact run_equalIn_int _ d f.type _ q _ _ hq
      · cases r1; cases r2; exact run_equalIn_string _ d f.type _ _ h4
    simp only [Op.eqFields, h1, ne_eq, not_false_eq_true, if_true, Sem.run_bind, run_part_plain w h3 g1, run_part_plain w h3 g2, hone, Result.andThen_ok, eqB]
    cases eq1 c e
    · simp
    · simpa using ih

theorem aggEq_flat {P : Program} {t : TypeId} {cs ds : List AV} (ht : P.underlying t = some (.struct (P.fieldsOf t))) (hp : P.stoodInHeld t = false) (hg : P.eqGuardType P.depth t = false)
    (hf : flatFits P 0 (P.fieldsOf t).toList cs ds) : AggEq P t cs ds := by
  intro E vs us w x y h1 h2
  have hq : (Op.equal t (.agg vs) (.agg us)).run P w = .ok (eqB cs ds) w := by
    show (Op.equalIn (9999 + 1) t _ _).run P w = _
    rw [run_equalIn_struct w 9999 t vs us ht hp]
    exact eqFields_flat (d := 9998) _ 0 cs ds hf (by simpa using h1) (by simpa using h2)
  constructor
  · simp [eqGuard, binOp, hg, hq]
  · simp [eqGuard, binOp, hg, hq]

end Go.Abs
namespace Go.Abs

mutual
theorem ren_congr {τ τ' : Nat → Nat} {n : Nat} (h : ∀ l, l < n → τ l = τ' l) : ∀ x : AV, x.nb n → x.ren τ = x.ren τ'
  | .agg cs, k | .tup cs, k | .pp cs, k => by simp only [AV.ren]; rw [renL_congr h cs k]
  | .lst _ _ rows, k => by simp only [AV.ren]; rw [renR_congr h rows k]
  | .acc l _, k | .own l _ _ _ _, k | .ptr l _, k | .map l, k => by simp only [AV.ren]; rw [h l k]
  | .func _ f c, k => by simp only [AV.ren]; rw [renL_congr h f k.1, renL_congr h c k.2]
  | .iface _ x, k => by simp only [AV.ren]; rw [ren_congr h x k]
  | .any, _ | .bool _, _ | .int _ _, _ | .str _, _ | .raw _, _ => rfl
theorem renL_congr {τ τ' : Nat → Nat} {n : Nat} (h : ∀ l, l < n → τ l = τ' l) : ∀ xs : List AV, nbL n xs → renL τ xs = renL τ' xs
  | [], _ => rfl
  | x :: xs, k => by simp only [renL]; rw [ren_congr h x k.1, renL_congr h xs k.2]
theorem renR_congr {τ τ' : Nat → Nat} {n : Nat} (h : ∀ l, l < n → τ l = τ' l) : ∀ xs : List (List AV), nbR n xs → renR τ xs = renR τ' xs
  | [], _ => rfl
  | x :: xs, k => by simp only [renR]; rw [renL_congr h x k.1, renR_congr h xs k.2]
end
mutual
theorem nb_ren {τ : Nat → Nat} {n m : Nat} (h : ∀ l, l < n → τ l < m) : ∀ x : AV, x.nb n → (x.ren τ).nb m
  | .agg cs, k | .tup cs, k | .pp cs, k => nbL_ren h cs k
  | .lst _ _ rows, k => nbR_ren h rows k
  | .acc l _, k | .own l _ _ _ _, k | .ptr l _, k | .map l, k => h l k
  | .func _ f c, k => ⟨nbL_ren h f k.1, nbL_ren h c k.2⟩
  | .iface _ x, k => nb_ren h x k
  | .any, _ | .bool _, _ | .int _ _, _ | .str _, _ | .raw _, _ => trivial
theorem nbL_ren {τ : Nat → Nat} {n m : Nat} (h : ∀ l, l < n → τ l < m) : ∀ xs : List AV, nbL n xs → nbL m (renL τ xs)
  | [], _ => trivial
  | x :: xs, k => ⟨nb_ren h x k.1, nbL_ren h xs k.2⟩
theorem nbR_ren {τ : Nat → Nat} {n m : Nat} (h : ∀ l, l < n → τ l < m) : ∀ xs : List (List AV), nbR n xs → nbR m (renR τ xs)
  | [], _ => trivial
  | x :: xs, k => ⟨nbL_ren h x k.1, nbR_ren h xs k.2⟩
end
theorem objRen_congr {τ τ' : Nat → Nat} {n : Nat} (h : ∀ l, l < n → τ l = τ' l) (x : AObj) (k : objNb n x) : x.ren τ = x.ren τ' := by
  cases x with
  | cells cs => simp only [AObj.ren]; rw [renL_congr h cs k]
  | acc imm sz rows => simp only [AObj.ren]; rw [renR_congr h rows k]
  | map es =>
    simp only [AObj.ren]
    congr 1
    refine List.map_congr_left fun p hp => ?_
    rw [ren_congr h _ (k p hp).1, ren_congr h _ (k p hp).2]
  | loop lk slots st pend => simp only [AObj.ren]; rw [renL_congr h slots k]
  | iter s p => rfl
  | dead => rfl
theorem Co1.sub_nil {n : Nat} {x y : AV} (h : Co1 [] n x y) : Sub x y := by
  rcases h with h | ⟨l, m, sz, rows, _, h, _⟩
  · exact h.1
  · simp at h
theorem CoL1.sub_nil {n : Nat} : ∀ {xs ys : List AV}, CoL1 [] n xs ys → SubL xs ys
  | [], _, rfl => SubL.nil
  | _ :: _, _, ⟨_, _, rfl, h, hs⟩ => SubL.cons h.sub_nil hs.sub_nil
theorem Co.sub_nil {n : Nat} {x y : AV} (h : Co [] n x y) : Sub x y := by
  rcases h with h | ⟨cs, ds, rfl, rfl, h⟩
  · exact h.sub_nil
  · rintro E v ⟨vs, rfl, hv⟩
    exact ⟨vs, rfl, h.sub_nil E _ hv⟩
theorem SubL.func {f : Fn} {xs ys : List AV} (h : SubL xs ys) : Sub (.func f [] xs) (.func f [] ys) := by
  rintro E v ⟨a, b, rfl, h1, h2⟩
  exact ⟨a, b, rfl, h1, h E _ h2⟩

abbrev Lens := Nat → Nat
def atN (ρ : List Nat) (k : Nat) : Nat := ρ.getD k 0
def Cov (ρ : List Nat) (need n : Nat) : Prop := ∀ k, k < need → ∃ l, ρ[k]? = some l ∧ l < n
theorem Cov.mono {ρ : List Nat} {a b n : Nat} (h : Cov ρ b n) (k : a ≤ b) : Cov ρ a n := fun i hi => h i (by omega)
theorem Cov.lt {ρ : List Nat} {a n : Nat} (h : Cov ρ a n) : ∀ l, l < a → atN ρ l < n := by
  intro l hl
  obtain ⟨k, hk, hn⟩ := h l hl
  unfold atN; rw [List.getD, hk]; exact hn
theorem atN_of {ρ : List Nat} {k l : Nat} (h : ρ[k]? = some l) : atN ρ k = l := by unfold atN; rw [List.getD, h]; rfl

section specs
variable {α β γ δ : Type}
structure VL (γ : Type) where
  enc : Lens → γ → List AV
  dec : List Nat → Lens → List AV → Option γ
  need : Nat
  nb : ∀ L g, nbL need (enc L g)
  ok : ∀ ρ L vs g, dec ρ L vs = some g → SubL vs (renL (atN ρ) (enc L g))
def dvlN : List AV → Option Unit
  | [] => some ()
  | _ => none
def vlN : VL Unit where
  enc _ _ := []
  dec _ _ := dvlN
  need := 0
  nb _ _ := trivial
  ok ρ L vs g h := by
    unfold dvlN at h
    split at h
    · exact SubL.nil
    · cases h
def dvlT (t : Ty γ) (s : VL δ) (ρ : List Nat) (L : Lens) : List AV → Option (γ × δ)
  | x :: xs => (t.dec [] x).bind fun y => (s.dec ρ L xs).bind fun a => some (y, a)
  | [] => none
def vlT (t : Ty γ) (s : VL δ) : VL (γ × δ) where
  enc L g := t.enc g.1 :: s.enc L g.2
  dec := dvlT t s
  need := s.need
  nb L g := ⟨t.nb _ _, s.nb L g.2⟩
  ok ρ L vs g h := by
    unfold dvlT at h
    split at h
    · simp only [Option.bind_eq_some_iff, Option.some.injEq] at h
      obtain ⟨y, hy, a, ha, rfl⟩ := h
      refine SubL.cons ?_ (s.ok ρ L _ _ ha)
      rw [ren_of_nb _ _ (t.nb 0 y)]
      exact (t.ok [] 0 _ _ hy).sub_nil
    · cases h
def dvlP (k : Nat) (s : VL δ) (ρ : List Nat) (L : Lens) : List AV → Option δ
  | .ptr l off :: xs => bif decide (off = 0 ∧ ρ[k]? = some l) then s.dec ρ L xs else none
  | _ => none
def vlP (k : Nat) (s : VL δ) : VL δ where
  enc L g := .ptr k 0 :: s.enc L g
  dec := dvlP k s
  need := max (k + 1) s.need
  nb L g := ⟨show k < _ by omega, nbL_le (by omega) _ (s.nb L g)⟩
  ok ρ L vs g h := by
    unfold dvlP at h
    split at h
    · rename_i l off xs
      cases hc : decide (off = 0 ∧ ρ[k]? = some l) with
      | false => simp [hc] at h
      | true =>
        simp only [hc, cond_true] at h
        obtain ⟨rfl, hc'⟩ := of_decide_eq_true hc
        refine SubL.cons ?_ (s.ok ρ L _ _ h)
        simp only [AV.ren, atN_of hc']
        exact Sub.refl _
    · cases h
def dvlM (k : Nat) (s : VL δ) (ρ : List Nat) (L : Lens) : List AV → Option δ
  | .map l :: xs => bif decide (ρ[k]? = some l) then s.dec ρ L xs else none
  | _ => none
def vlM (k : Nat) (s : VL δ) : VL δ where
  enc L g := .map k :: s.enc L g
  dec := dvlM k s
  need := max (k + 1) s.need
  nb L g := ⟨show k < _ by omega, nbL_le (by omega) _ (s.nb L g)⟩
  ok ρ L vs g h := by
    unfold dvlM at h
    split at h
    · rename_i l xs
      cases hc : decide (ρ[k]? = some l) with
      | false => simp [hc] at h
      | true =>
        simp only [hc, cond_true] at h
        have hc := of_decide_eq_true hc
        refine SubL.cons ?_ (s.ok ρ L _ _ h)
        simp only [AV.ren, atN_of hc]
        exact Sub.refl _
    · cases h
def dvlF (f : FuncId) (c : VL γ) (s : VL δ) (ρ : List Nat) (L : Lens) : List AV → Option (γ × δ)
  | .func (.func f') [] cs :: xs => bif decide (f' = f) then (c.dec ρ L cs).bind fun y => (s.dec ρ L xs).bind fun a => some (y, a) else none
  | _ => none
def vlF (f : FuncId) (c : VL γ) (s : VL δ) : VL (γ × δ) where
  enc L g := .func (.func f) [] (c.enc L g.1) :: s.enc L g.2
  dec := dvlF f c s
  need := max c.need s.need
  nb L g := ⟨⟨trivial, nbL_le (by omega) _ (c.nb L g.1)⟩, nbL_le (by omega) _ (s.nb L g.2)⟩
  ok ρ L vs g h := by
    unfold dvlF at h
    split at h
    · rename_i f' cs xs
      cases hc : decide (f' = f) with
      | false => simp [hc] at h
      | true =>
        simp only [hc, cond_true, Option.bind_eq_some_iff, Option.some.injEq] at h
        obtain ⟨y, hy, a, ha, rfl⟩ := h
        obtain rfl := of_decide_eq_true hc
        refine SubL.cons ?_ (s.ok ρ L _ _ ha)
        simp only [AV.ren, renL]
        exact (c.ok ρ L _ _ hy).func
    · cases h
theorem vlN_f : (∀ L g, vlN.enc L g = []) ∧ ∀ ρ L xs, vlN.dec ρ L xs = dvlN xs := ⟨fun _ _ => rfl, fun _ _ _ => rfl⟩
theorem vlT_f {t : Ty γ} {s : VL δ} : (∀ L g, (vlT t s).enc L g = t.enc g.1 :: s.enc L g.2) ∧ ∀ ρ L xs, (vlT t s).dec ρ L xs = dvlT t s ρ L xs := ⟨fun _ _ => rfl, fun _ _ _ => rfl⟩
theorem vlP_f {k : Nat} {s : VL δ} : (∀ L g, (vlP k s).enc L g = .ptr k 0 :: s.enc L g) ∧ ∀ ρ L xs, (vlP k s).dec ρ L xs = dvlP k s ρ L xs := ⟨fun _ _ => rfl, fun _ _ _ => rfl⟩
theorem vlM_f {k : Nat} {s : VL δ} : (∀ L g, (vlM k s).enc L g = .map k :: s.enc L g) ∧ ∀ ρ L xs, (vlM k s).dec ρ L xs = dvlM k s ρ L xs := ⟨fun _ _ => rfl, fun _ _ _ => rfl⟩
theorem vlF_f {f : FuncId} {c : VL γ} {s : VL δ} : (∀ L g, (vlF f c s).enc L g = .func (.func f) [] (c.enc L g.1) :: s.enc L g.2) ∧ ∀ ρ L xs, (vlF f c s).dec ρ L xs = dvlF f c s ρ L xs := ⟨fun _ _ => rfl, fun _ _ _ => rfl⟩

structure AL (γ : Type) where
  enc : Lens → γ → List AV
  dec : List Nat → Lens → List AObj → List AV → Option γ
  need : Nat
  nb : ∀ L g, nbL need (enc L g)
  ok : ∀ ρ L H n vs g, Cov ρ need n → dec ρ L H vs = some g → CoL H n vs (renL (atN ρ) (enc L g))
def alN : AL Unit where
  enc _ _ := []
  dec _ _ _ := dvlN
  need := 0
  nb _ _ := trivial
  ok ρ L H n vs g _ h := by
    unfold dvlN at h
    split at h
    · exact CoL.nil
    · cases h
def dalT (t : Ty γ) (s : AL δ) (ρ : List Nat) (L : Lens) (H : List AObj) : List AV → Option (γ × δ)
  | x :: xs => (t.dec H x).bind fun y => (s.dec ρ L H xs).bind fun a => some (y, a)
  | [] => none
def alT (t : Ty γ) (s : AL δ) : AL (γ × δ) where
  enc L g := t.enc g.1 :: s.enc L g.2
  dec := dalT t s
  need := s.need
  nb L g := ⟨t.nb _ _, s.nb L g.2⟩
  ok ρ L H n vs g hc h := by
    unfold dalT at h
    split at h
    · simp only [Option.bind_eq_some_iff, Option.some.injEq] at h
      obtain ⟨y, hy, a, ha, rfl⟩ := h
      refine CoL.cons ?_ (s.ok ρ L H n _ _ hc ha)
      rw [ren_of_nb _ _ (t.nb 0 y)]
      exact t.ok H n _ _ hy
    · cases h
def dalC (c : Cel γ) (k : Nat) (s : AL δ) (ρ : List Nat) (L : Lens) (H : List AObj) (xs : List AV) : Option (γ × δ) :=
  (c.dec H (xs.take k)).bind fun y => (s.dec ρ L H (xs.drop k)).bind fun a => some (y, a)
theorem CoL1.append' {H : List AObj} {n : Nat} : ∀ {xs ys us vs : List AV}, CoL1 H n xs ys → CoL H n us vs → CoL H n (xs ++ us) (ys ++ vs)
  | [], _, _, _, rfl, h => h
  | _ :: _, _, _, _, ⟨y, zs, rfl, h, hs⟩, h2 => ⟨y, zs ++ _, rfl, .inl h, CoL1.append' hs h2⟩
def alC (c : Cel γ) (k : Nat) (s : AL δ) : AL (γ × δ) where
  enc L g := c.enc g.1 ++ s.enc L g.2
  dec := dalC c k s
  need := s.need
  nb L g := nbL_append (c.nb _ _) (s.nb L g.2)
  ok ρ L H n vs g hc h := by
    unfold dalC at h
    simp only [Option.bind_eq_some_iff, Option.some.injEq] at h
    obtain ⟨y, hy, a, ha, rfl⟩ := h
    rw [renL_append, renL_of_nb _ _ (c.nb 0 y), ← List.take_append_drop k vs]
    exact CoL1.append' (c.ok H n _ _ hy) (s.ok ρ L H n _ _ hc ha)
def dalP (k : Nat) (s : AL δ) (ρ : List Nat) (L : Lens) (H : List AObj) : List AV → Option δ
  | .ptr l off :: xs => bif decide (off = 0 ∧ ρ[k]? = some l) then s.dec ρ L H xs else none
  | _ => none
def alP (k : Nat) (s : AL δ) : AL δ where
  enc L g := .ptr k 0 :: s.enc L g
  dec := dalP k s
  need := max (k + 1) s.need
  nb L g := ⟨show k < _ by omega, nbL_le (by omega) _ (s.nb L g)⟩
  ok ρ L H n vs g hv h := by
    unfold dalP at h
    split at h
    · rename_i l off xs
      cases hc : decide (off = 0 ∧ ρ[k]? = some l) with
      | false => simp [hc] at h
      | true =>
        simp only [hc, cond_true] at h
        obtain ⟨rfl, hc'⟩ := of_decide_eq_true hc
        refine CoL.cons ?_ (s.ok ρ L H n _ _ (hv.mono (by omega)) h)
        have hl := hv.lt k (by omega)
        simp only [AV.ren]
        rw [atN_of hc'] at hl ⊢
        exact Co.same hl
    · cases h
def dalM (k : Nat) (s : AL δ) (ρ : List Nat) (L : Lens) (H : List AObj) : List AV → Option δ
  | .map l :: xs => bif decide (ρ[k]? = some l) then s.dec ρ L H xs else none
  | _ => none
def alM (k : Nat) (s : AL δ) : AL δ where
  enc L g := .map k :: s.enc L g
  dec := dalM k s
  need := max (k + 1) s.need
  nb L g := ⟨show k < _ by omega, nbL_le (by omega) _ (s.nb L g)⟩
  ok ρ L H n vs g hv h := by
    unfold dalM at h
    split at h
    · rename_i l xs
      cases hc : decide (ρ[k]? = some l) with
      | false => simp [hc] at h
      | true =>
        simp only [hc, cond_true] at h
        have hc' := of_decide_eq_true hc
        refine CoL.cons ?_ (s.ok ρ L H n _ _ (hv.mono (by omega)) h)
        have hl := hv.lt k (by omega)
        simp only [AV.ren]
        rw [atN_of hc'] at hl ⊢
        exact Co.same hl
    · cases h
def dalA (k : Nat) (s : AL δ) (ρ : List Nat) (L : Lens) (H : List AObj) : List AV → Option δ
  | .acc l m :: xs => bif decide (m = L k ∧ ρ[k]? = some l) then s.dec ρ L H xs else none
  | _ => none
def alA (k : Nat) (s : AL δ) : AL δ where
  enc L g := .acc k (L k) :: s.enc L g
  dec := dalA k s
  need := max (k + 1) s.need
  nb L g := ⟨show k < _ by omega, nbL_le (by omega) _ (s.nb L g)⟩
  ok ρ L H n vs g hv h := by
    unfold dalA at h
    split at h
    · rename_i l m xs
      cases hc : decide (m = L k ∧ ρ[k]? = some l) with
      | false => simp [hc] at h
      | true =>
        simp only [hc, cond_true] at h
        obtain ⟨rfl, hc'⟩ := of_decide_eq_true hc
        refine CoL.cons ?_ (s.ok ρ L H n _ _ (hv.mono (by omega)) h)
        have hl := hv.lt k (by omega)
        simp only [AV.ren]
        rw [atN_of hc'] at hl ⊢
        exact Co.same hl
    · cases h
def dalF (f : FuncId) (c : VL γ) (s : AL δ) (ρ : List Nat) (L : Lens) (H : List AObj) : List AV → Option (γ × δ)
  | .func (.func f') [] cs :: xs => bif decide (f' = f) then (c.dec ρ L cs).bind fun y => (s.dec ρ L H xs).bind fun a => some (y, a) else none
  | _ => none
def alF (f : FuncId) (c : VL γ) (s : AL δ) : AL (γ × δ) where
  enc L g := .func (.func f) [] (c.enc L g.1) :: s.enc L g.2
  dec := dalF f c s
  need := max c.need s.need
  nb L g := ⟨⟨trivial, nbL_le (by omega) _ (c.nb L g.1)⟩, nbL_le (by omega) _ (s.nb L g.2)⟩
  ok ρ L H n vs g hv h := by
    unfold dalF at h
    split at h
    · rename_i f' cs xs
      cases hc : decide (f' = f) with
      | false => simp [hc] at h
      | true =>
        simp only [hc, cond_true, Option.bind_eq_some_iff, Option.some.injEq] at h
        obtain ⟨y, hy, a, ha, rfl⟩ := h
        obtain rfl := of_decide_eq_true hc
        refine CoL.cons ?_ (s.ok ρ L H n _ _ (hv.mono (by omega)) ha)
        simp only [AV.ren, renL]
        exact Co.sub (c.ok ρ L _ _ hy).func ⟨trivial, nbL_ren (hv.mono (a := c.need) (by omega)).lt _ (c.nb L y)⟩
    · cases h
def dalZ (s : AL δ) (ρ : List Nat) (L : Lens) (H : List AObj) : List AV → Option δ
  | _ :: xs => s.dec ρ L H xs
  | _ => none
def alZ (s : AL δ) : AL δ where
  enc L g := .any :: s.enc L g
  dec := dalZ s
  need := s.need
  nb L g := ⟨trivial, s.nb L g⟩
  ok ρ L H n vs g hv h := by
    unfold dalZ at h
    split at h
    · exact CoL.cons Co.any (s.ok ρ L H n _ _ hv h)
    · cases h
def alZs : Nat → AL δ → AL δ
  | 0, s => s
  | n + 1, s => alZ (alZs n s)
theorem alN_f : (∀ L g, alN.enc L g = []) ∧ (∀ ρ L H xs, alN.dec ρ L H xs = dvlN xs) ∧ alN.need = 0 := ⟨fun _ _ => rfl, fun _ _ _ _ => rfl, rfl⟩
theorem alT_f {t : Ty γ} {s : AL δ} : (∀ L g, (alT t s).enc L g = t.enc g.1 :: s.enc L g.2) ∧ (∀ ρ L H xs, (alT t s).dec ρ L H xs = dalT t s ρ L H xs) ∧ (alT t s).need = s.need := ⟨fun _ _ => rfl, fun _ _ _ _ => rfl, rfl⟩
theorem alC_f {c : Cel γ} {k : Nat} {s : AL δ} : (∀ L g, (alC c k s).enc L g = c.enc g.1 ++ s.enc L g.2) ∧ (∀ ρ L H xs, (alC c k s).dec ρ L H xs = dalC c k s ρ L H xs) ∧ (alC c k s).need = s.need := ⟨fun _ _ => rfl, fun _ _ _ _ => rfl, rfl⟩
theorem alP_f {k : Nat} {s : AL δ} : (∀ L g, (alP k s).enc L g = .ptr k 0 :: s.enc L g) ∧ (∀ ρ L H xs, (alP k s).dec ρ L H xs = dalP k s ρ L H xs) ∧ (alP k s).need = max (k + 1) s.need := ⟨fun _ _ => rfl, fun _ _ _ _ => rfl, rfl⟩
theorem alM_f {k : Nat} {s : AL δ} : (∀ L g, (alM k s).enc L g = .map k :: s.enc L g) ∧ (∀ ρ L H xs, (alM k s).dec ρ L H xs = dalM k s ρ L H xs) ∧ (alM k s).need = max (k + 1) s.need := ⟨fun _ _ => rfl, fun _ _ _ _ => rfl, rfl⟩
theorem alA_f {k : Nat} {s : AL δ} : (∀ L g, (alA k s).enc L g = .acc k (L k) :: s.enc L g) ∧ (∀ ρ L H xs, (alA k s).dec ρ L H xs = dalA k s ρ L H xs) ∧ (alA k s).need = max (k + 1) s.need := ⟨fun _ _ => rfl, fun _ _ _ _ => rfl, rfl⟩
theorem alF_f {f : FuncId} {c : VL γ} {s : AL δ} : (∀ L g, (alF f c s).enc L g = .func (.func f) [] (c.enc L g.1) :: s.enc L g.2) ∧ (∀ ρ L H xs, (alF f c s).dec ρ L H xs = dalF f c s ρ L H xs) ∧ (alF f c s).need = max c.need s.need := ⟨fun _ _ => rfl, fun _ _ _ _ => rfl, rfl⟩
theorem alZ_f {s : AL δ} : (∀ L g, (alZ s).enc L g = .any :: s.enc L g) ∧ (∀ ρ L H xs, (alZ s).dec ρ L H xs = dalZ s ρ L H xs) ∧ (alZ s).need = s.need := ⟨fun _ _ => rfl, fun _ _ _ _ => rfl, rfl⟩
end specs
end Go.Abs
namespace Go.Abs

theorem objNb_le' {n m : Nat} (h : n ≤ m) (x : AObj) (k : objNb n x) : objNb m x := by
  cases x with
  | cells cs => exact nbL_le h _ k
  | acc imm sz rows => exact nbR_le h _ k
  | map es => exact fun p hp => ⟨AV.nb_le h _ (k p hp).1, AV.nb_le h _ (k p hp).2⟩
  | loop lk slots st pend => exact nbL_le h _ k
  | iter s p => trivial
  | dead => trivial
theorem imp_select {ys : List AV} {H Ys : List AObj} {ρ : List Nat} {low : Nat} (hlen : ρ.length = Ys.length) (hnd : ρ.Nodup) (hid : ∀ k, k < low → ρ[k]? = some k)
    (hl : low ≤ Ys.length) (hnb : nbL Ys.length ys) (hnbH : ∀ y ∈ Ys, objNb Ys.length y)
    (hobj : ∀ (i k : Nat) (y : AObj), ρ[i]? = some k → Ys[i]? = some y → H[k]? = some (y.ren (atN ρ))) :
    Imp ⟨renL (atN ρ) ys, H, low⟩ ⟨ys, Ys, low⟩ := by
  intro C φ a w S
  let φ' : Nat → Value := fun k => φ (atN ρ k)
  have hρ : ∀ k, k < Ys.length → ρ[k]? = some (atN ρ k) := by
    intro k hk
    have hk' : k < ρ.length := by omega
    rw [atN_of (List.getElem?_eq_getElem hk')]
    exact List.getElem?_eq_getElem hk'
  have hget : ∀ (k : Nat) (y : AObj), Ys[k]? = some y → k < Ys.length ∧ H[atN ρ k]? = some (y.ren (atN ρ)) := by
    intro k y hy
    have hk := (List.getElem?_eq_some_iff.1 hy).1
    exact ⟨hk, hobj k _ y (hρ k hk) hy⟩
  have hfix : ∀ k, k < low → atN ρ k = k := fun k hk => atN_of (hid k hk)
  have hinj : ∀ k k', k < Ys.length → k' < Ys.length → atN ρ k = atN ρ k' → k = k' := by
    intro k k' hk hk' he
    have h1 := hρ k hk
    have h2 := hρ k' hk'
    rw [← he] at h2
    have e1 := posIn_at ρ k _ hnd h1
    have e2 := posIn_at ρ k' _ hnd h2
    rw [e1] at e2; exact Option.some.inj e2
  have hmut : ∀ b o, Mut φ' Ys b o → Mut φ H b o := by
    rintro b o ⟨k, z, hz, hm⟩
    exact ⟨_, _, (hget k z hz).2, ren_muts.2 hm⟩
  have un : UnLe Ys.length (atN ρ) (C.env φ H w) (C.env φ' Ys w) := by
    refine ⟨Nat.le_refl _, fun k hk => ⟨rfl, ?_⟩, fun b o u hm hc => ⟨fun h => hm (h.imp (hmut b o) id), hc⟩⟩
    show accLen Ys[k]? = accLen H[atN ρ k]?
    have hy := List.getElem?_eq_getElem hk
    rw [(hget k _ hy).2, hy, ren_accLen]
  have hdef : DefOK C φ' Ys w a.defers := S.defers.step (fun _ _ _ => rfl) (fun k z b hz hb => .inl ⟨_, _, (hget k z hz).2, ren_block.2 hb⟩)
  refine ⟨φ', { slots := RepL.unren un _ _ hnb S.slots, defers := hdef, objs := ?_, apart := ?_, notA := ?_, size := S.size, old := S.old, oldObj := S.oldObj, inM := ?_, froz := S.froz, rest := S.rest, low := ⟨S.low.1, hl⟩, names := ?_ }⟩
  · intro k z hz
    exact ObjRep.unren un (hnbH z (List.mem_of_getElem? hz)) (fun _ _ => rfl) (S.objs _ _ (hget k z hz).2)
  · intro k k' z z' b hz hz' hb hb'
    refine hinj k k' (hget k z hz).1 (hget k' z' hz').1 (S.apart _ _ _ _ b (hget k z hz).2 (hget k' z' hz').2 (ren_block.2 hb) (ren_block.2 hb'))
  · intro k z b o hz hb
    exact S.notA _ _ b o (hget k z hz).2 (ren_block.2 hb)
  · intro k z b o hz hm hb
    exact S.inM _ _ b o (hget k z hz).2 (ren_muts.2 hm) hb
  · intro k hk
    have hk' : k < low := by have := S.low.1; simp only at this; omega
    have hn := S.names k hk
    have e1 : φ' k = φ k := by show φ (atN ρ k) = φ k; rw [hfix k hk']
    have e2 : accLen Ys[k]? = accLen H[k]? := by
      have hy := List.getElem?_eq_getElem (show k < Ys.length by omega)
      have := (hget k _ hy).2
      rw [hfix k hk'] at this
      rw [this, hy, ren_accLen]
    show (φ' k = _ ∧ (accLen Ys[k]? = _ ∨ accLen Ys[k]? = none)) ∨ ((∃ m, _ ∧ ∀ m', accLen Ys[k]? = some m' → _) ∧ _)
    rw [e1, e2]
    exact hn

section objs
variable {α β γ δ : Type}
structure OG (γ : Type) where
  enc : Lens → γ → AObj
  dec : List Nat → Lens → List AObj → AObj → Option γ
  len : γ → Nat
  need : Nat
  nb : ∀ L g, objNb need (enc L g)
  ok : ∀ ρ L H n x g, Cov ρ need n → dec ρ L H x = some g → CoObj H n x ((enc L g).ren (atN ρ))
  lenOK : ∀ ρ L H x g, dec ρ L H x = some g → len g = (accLen (some x)).getD 0
theorem mapO_length {α β : Type} {f : α → Option β} : ∀ {xs : List α} {ys : List β}, mapO f xs = some ys → ys.length = xs.length
  | [], ys, h => by simp only [mapO, Option.some.injEq] at h; subst h; rfl
  | x :: xs, ys, h => by
    simp only [mapO, Option.bind_eq_some_iff, Option.some.injEq] at h
    obtain ⟨y, hy, zs, hz, rfl⟩ := h
    simp [mapO_length hz]
def ogA (imm : Bool) (r : Row α) : OG (List α) where
  enc _ xs := .acc imm r.sz (mp r.enc xs)
  dec _ _ _ := daT imm r
  len xs := xs.length
  need := 0
  nb L g := nbR_rows g
  ok ρ L H n x g _ h := by
    have := (oaT imm r).ok H n x g h
    rw [show (AObj.acc imm r.sz (mp r.enc g)).ren (atN ρ) = .acc imm r.sz (mp r.enc g) from (oaT imm r).ren _ g]
    exact this
  lenOK ρ L H x g h := by
    unfold daT at h
    split at h
    · split at h
      · exact mapO_length h
      · cases h
    · cases h
def docC (c : AL γ) (ρ : List Nat) (L : Lens) (H : List AObj) : AObj → Option γ
  | .cells cs => c.dec ρ L H cs
  | _ => none
def ogC (c : AL γ) : OG γ where
  enc L g := .cells (c.enc L g)
  dec := docC c
  len _ := 0
  need := c.need
  nb L g := c.nb L g
  ok ρ L H n x g hv h := by
    unfold docC at h
    split at h
    · exact .inr (.inr (.inl ⟨_, _, rfl, rfl, c.ok ρ L H n _ _ hv h⟩))
    · cases h
  lenOK ρ L H x g h := by
    unfold docC at h
    split at h
    · rfl
    · cases h
theorem ogA_f {imm : Bool} {r : Row α} : (∀ L g, (ogA imm r).enc L g = .acc imm r.sz (mp r.enc g)) ∧ (∀ ρ L H x, (ogA imm r).dec ρ L H x = daT imm r x) ∧ (∀ g, (ogA imm r).len g = g.length) ∧ (ogA imm r).need = 0 := ⟨fun _ _ => rfl, fun _ _ _ _ => rfl, fun _ => rfl, rfl⟩
theorem ogC_f {c : AL γ} : (∀ L g, (ogC c).enc L g = .cells (c.enc L g)) ∧ (∀ ρ L H x, (ogC c).dec ρ L H x = docC c ρ L H x) ∧ (∀ g, (ogC c).len g = 0) ∧ (ogC c).need = c.need := ⟨fun _ _ => rfl, fun _ _ _ _ => rfl, fun _ => rfl, rfl⟩

structure OL (β : Type) where
  enc : Lens → β → List AObj
  dec : List Nat → Lens → List AObj → List AObj → Option β
  lens : β → Lens
  size : Nat
  need : Nat
  sz : ∀ L b, (enc L b).length = size
  nb : ∀ L b, ∀ y ∈ enc L b, objNb need y
  ok : ∀ ρ L H n xs b, Cov ρ need n → dec ρ L H xs = some b → xs.length = size ∧ ∀ (i : Nat) (y : AObj), (enc L b)[i]? = some y → ∃ x, xs[i]? = some x ∧ CoObj H n x (y.ren (atN ρ))
  szOK : ∀ ρ L H xs b, dec ρ L H xs = some b → xs.length = size
  lensOK : ∀ ρ L H xs b, dec ρ L H xs = some b → ∀ k, lens b k = (accLen xs[k]?).getD 0
def dolN : List AObj → Option Unit
  | [] => some ()
  | _ => none
def olN : OL Unit where
  enc _ _ := []
  dec _ _ _ := dolN
  lens _ _ := 0
  size := 0
  need := 0
  sz _ _ := rfl
  nb _ _ := by simp
  ok ρ L H n xs b _ h := by
    unfold dolN at h
    split at h
    · exact ⟨rfl, by simp⟩
    · cases h
  szOK ρ L H xs b h := by
    unfold dolN at h
    split at h
    · rfl
    · cases h
  lensOK ρ L H xs b h k := by
    unfold dolN at h
    split at h
    · rfl
    · cases h
def dolC (o : OG γ) (s : OL β) (ρ : List Nat) (L : Lens) (H : List AObj) : List AObj → Option (γ × β)
  | x :: xs => (o.dec ρ L H x).bind fun y => (s.dec ρ L H xs).bind fun b => some (y, b)
  | [] => none
def lolC (a : Nat) (f : Lens) : Lens
  | 0 => a
  | k + 1 => f k
def olC (o : OG γ) (s : OL β) : OL (γ × β) where
  enc L b := o.enc L b.1 :: s.enc L b.2
  dec := dolC o s
  lens b := lolC (o.len b.1) (s.lens b.2)
  size := s.size + 1
  need := max o.need s.need
  sz L b := by rw [List.length_cons, s.sz]
  nb L b y hy := by
    simp only [List.mem_cons] at hy
    rcases hy with rfl | hy
    · exact objNb_le' (by omega) _ (o.nb L _)
    · exact objNb_le' (by omega) _ (s.nb L _ y hy)
  ok ρ L H n xs b hv h := by
    unfold dolC at h
    split at h
    · rename_i x xs
      simp only [Option.bind_eq_some_iff, Option.some.injEq] at h
      obtain ⟨y, hy, b, hb, rfl⟩ := h
      obtain ⟨h1, h2⟩ := s.ok ρ L H n _ _ (hv.mono (by omega)) hb
      refine ⟨by rw [List.length_cons, h1], fun i z hz => ?_⟩
      cases i with
      | zero => simp at hz; subst hz; exact ⟨x, by simp, o.ok ρ L H n _ _ (hv.mono (by omega)) hy⟩
      | succ i => simp at hz; obtain ⟨q, hq, hc⟩ := h2 i z hz; exact ⟨q, by simpa using hq, hc⟩
    · cases h
  szOK ρ L H xs b h := by
    unfold dolC at h
    split at h
    · simp only [Option.bind_eq_some_iff, Option.some.injEq] at h
      obtain ⟨y, hy, b, hb, rfl⟩ := h
      rw [List.length_cons, s.szOK _ _ _ _ _ hb]
    · cases h
  lensOK ρ L H xs b h k := by
    unfold dolC at h
    split at h
    · simp only [Option.bind_eq_some_iff, Option.some.injEq] at h
      obtain ⟨y, hy, b, hb, rfl⟩ := h
      cases k with
      | zero => simp only [lolC, List.getElem?_cons_zero]; exact o.lenOK ρ L H _ _ hy
      | succ k => simp only [lolC, List.getElem?_cons_succ]; exact s.lensOK ρ L H _ _ hb k
    · cases h
theorem olN_f : (∀ L b, olN.enc L b = []) ∧ (∀ ρ L H xs, olN.dec ρ L H xs = dolN xs) ∧ (∀ b k, olN.lens b k = 0) ∧ olN.size = 0 ∧ olN.need = 0 := ⟨fun _ _ => rfl, fun _ _ _ _ => rfl, fun _ _ => rfl, rfl, rfl⟩
theorem olC_f {o : OG γ} {s : OL β} : (∀ L b, (olC o s).enc L b = o.enc L b.1 :: s.enc L b.2) ∧ (∀ ρ L H xs, (olC o s).dec ρ L H xs = dolC o s ρ L H xs) ∧ (∀ b, (olC o s).lens b = lolC (o.len b.1) (s.lens b.2)) ∧ (olC o s).size = s.size + 1 ∧ (olC o s).need = max o.need s.need := ⟨fun _ _ => rfl, fun _ _ _ _ => rfl, fun _ => rfl, rfl, rfl⟩
end objs
end Go.Abs
namespace Go.Abs

inductive Loc where
  | arg (i : Nat) (cs : List Nat)
  | obj (k c : Nat) (cs : List Nat)
def nameV : AV → Option Nat
  | .ptr l _ => some l
  | .acc l _ => some l
  | .map l => some l
  | _ => none
def down : List Nat → AV → Option AV
  | [], v => some v
  | i :: is, .func _ _ cap => match cap[i]? with
    | some u => down is u
    | none => none
  | _ :: _, _ => none
def cellAt (c : Nat) : Option AObj → Option AV
  | some (.cells xs) => xs[c]?
  | some (.loop _ xs _ _) => xs[c]?
  | _ => none
def locN (args : List AV) (H : List AObj) (ρ : List Nat) : Loc → Option Nat
  | .arg i cs => (args[i]?).bind fun v => (down cs v).bind nameV
  | .obj k c cs => (ρ[k]?).bind fun l => (cellAt c H[l]?).bind fun v => (down cs v).bind nameV
def locs (args : List AV) (H : List AObj) : List Loc → List Nat → Option (List Nat)
  | [], ρ => some ρ
  | p :: ps, ρ => (locN args H ρ p).bind fun l => locs args H ps (ρ ++ [l])
theorem locs_pre {args : List AV} {H : List AObj} : ∀ {ps : List Loc} {ρ ρ' : List Nat}, locs args H ps ρ = some ρ' → ∃ ls, ρ' = ρ ++ ls
  | [], ρ, ρ', h => by simp only [locs, Option.some.injEq] at h; exact ⟨[], by rw [h, List.append_nil]⟩
  | p :: ps, ρ, ρ', h => by
    simp only [locs, Option.bind_eq_some_iff] at h
    obtain ⟨l, _, h⟩ := h
    obtain ⟨ls, hl⟩ := locs_pre h
    exact ⟨l :: ls, by rw [hl, List.append_assoc]; rfl⟩
def lnOf (xs : List AObj) (k : Nat) : Nat := (accLen xs[k]?).getD 0

theorem callXT {P : Program} {T : Value → World → Array Value → (Ending → World → Prop) → Prop} (hT : TMono T) {l0 : Nat} {σ : AState} {cargs args : List AV} {Ys Ys' : List AObj} {r : AV} {ρ : List Nat} (hG : FnT P T args Ys (fun o H' => o = .ret r ∧ H' = Ys')) (hnd : ρ.Nodup) (hlen : ρ.length = Ys.length) (hlen' : ρ.length ≤ Ys'.length)
    (hz : ∀ φ : Nat → Value, T (φ (backTo ρ σ.heap.length 0)) = T (φ l0))
    (hobj : ∀ (i k : Nat), ρ[i]? = some k → ∃ x y, σ.heap[k]? = some x ∧ Ys[i]? = some y ∧ CoObj σ.heap σ.heap.length x (y.ren (backTo ρ σ.heap.length))) (hargs : CoL σ.heap σ.heap.length cargs (renL (backTo ρ σ.heap.length) args)) :
    CallT P T l0 cargs σ (fun o H' => o = .ret (r.ren (backTo ρ σ.heap.length)) ∧ H' = heapBack ρ σ.heap Ys') := by
  intro C φ a w hP S vs hr
  let H1 := setAll σ.heap ρ (Ys.map (AObj.ren (backTo ρ σ.heap.length)))
  have hl1 : H1.length = σ.heap.length := setAll_length _ _ _
  have S0 : Sim C φ ⟨σ.slots ++ cargs, σ.heap, σ.low⟩ { tmps := a.tmps ++ vs, defers := a.defers } w := { S with slots := by simpa using S.slots.append hr, defers := S.defers }
  have hat : ∀ (i k : Nat), ρ[i]? = some k → ∃ x y, σ.heap[k]? = some x ∧ Ys[i]? = some y ∧ CoObj σ.heap σ.heap.length x (y.ren (backTo ρ σ.heap.length)) ∧ H1[k]? = some (y.ren (backTo ρ σ.heap.length)) := by
    intro i k hi
    obtain ⟨x, y, hx, hy, hc⟩ := hobj i k hi
    exact ⟨x, y, hx, hy, hc, setAll_at ρ σ.heap _ i k _ hnd hi (by rw [List.getElem?_map, hy]; rfl) (List.getElem?_eq_some_iff.1 hx).1⟩
  have hw : Weak ⟨σ.slots ++ cargs, σ.heap, σ.low⟩ ⟨σ.slots ++ renL (backTo ρ σ.heap.length) args, H1, σ.low⟩ := by
    refine ⟨⟨rfl, by show σ.low ≤ H1.length; rw [hl1]; exact S.low.2⟩, ?_, ?_⟩
    · show CoL σ.heap H1.length _ _
      rw [hl1]
      exact CoL.append (CoL.same (RepL.nb _ _ S.slots)) hargs
    · show CoH σ.heap H1.length σ.heap H1
      rw [hl1]
      refine coH_of_get fun k y hy => ?_
      by_cases hk : k ∈ ρ
      · obtain ⟨i, hi⟩ := List.getElem?_of_mem hk
        obtain ⟨x, y', hx, _, hc, hy'⟩ := hat i k hi
        rw [hy'] at hy; cases hy
        exact ⟨x, hx, hc⟩
      · have hy2 : σ.heap[k]? = some y := by rw [← hy]; exact (setAll_other ρ σ.heap _ k hk).symm
        exact ⟨y, hy2, .inr (.inl ⟨rfl, objNb_rep (S.objs k y hy2)⟩)⟩
  have S1 := hw.sim S0
  have hsl := S1.slots
  simp only [Array.toList_append] at hsl
  have hsz : a.tmps.toList.length = σ.slots.length := S.slots.length
  have h1 := hsl.take σ.slots.length
  have h2 := hsl.drop σ.slots.length
  rw [List.take_left' rfl, List.take_left' hsz] at h1
  rw [List.drop_left' rfl, List.drop_left' hsz] at h2
  have S2 : Sim C φ { σ with heap := H1 } a w := { S1 with slots := h1, defers := S1.defers }
  have hcall : CallT P T l0 (renL (backTo ρ H1.length) args) { σ with heap := H1 } (fun o H' => o = .ret (r.ren (backTo ρ H1.length)) ∧ H' = heapBack ρ σ.heap Ys') := by
    refine callT_of_fnT (σ := { σ with heap := H1 }) hT hG ρ hlen hnd (by show ∀ φ : Nat → Value, T (φ (backTo ρ H1.length 0)) = T (φ l0); rw [hl1]; exact hz) (SubL.refl _) ?_ ?_
    · intro i k x hi hx
      obtain ⟨x', y, _, hy, _, hy'⟩ := hat i k hi
      rw [hy] at hx; cases hx
      show H1[k]? = some (x.ren (backTo ρ H1.length))
      rw [hy', hl1]
    · rintro o H' ⟨rfl, rfl⟩
      refine ⟨rfl, ?_⟩
      show heapBack ρ H1 H' = _
      unfold heapBack
      rw [hl1]
      simp only [H1]
      rw [setAll_setAll ρ σ.heap _ _ hnd (by rw [List.length_map]; exact hlen')]
  rw [hl1] at hcall
  exact hcall C φ a w hP S2 vs h2

section entX
variable {α β α' β' : Type}
def entX0 (base : List Nat) (pos : List Loc) (os : OL β) (as : AL α) (os' : OL β') (rs : AL α') (F : β → α → Option (β' × α')) : Ent := fun args H =>
  (locs args H pos base).bind fun ρ => bif nodupB ρ && (decide (os.need ≤ ρ.length) && (decide (as.need ≤ ρ.length) && decide (ρ.length ≤ os'.size))) then
    (mapO (getAt H) ρ).bind fun xs => (os.dec ρ (lnOf xs) H xs).bind fun b => (as.dec ρ (lnOf xs) H args).bind fun a => (F b a).bind fun r =>
      some ((tupOf (rs.enc (os'.lens r.1) r.2)).ren (backTo ρ H.length), heapBack ρ H (os'.enc (os'.lens r.1) r.1)) else none
def entX (pos : List Loc) (os : OL β) (as : AL α) (os' : OL β') (rs : AL α') (F : β → α → Option (β' × α')) : Ent := entX0 [] pos os as os' rs F
noncomputable def entY (pos : List Loc) (os : OL β) (as : AL α) (os' : OL β') (rs : AL α') (F : β → α → Option (β' × α')) (l : Nat) : Ent := fun args H =>
  match H[l]? with
  | some (.loop k _ _ _) => pcond (args.length = k.ps.size) (entX0 [l] pos os as os' rs F args H)
  | _ => none

theorem entX0_ok {P : Program} {T : Value → World → Array Value → (Ending → World → Prop) → Prop} (hT : TMono T) {l0 : Nat} {base : List Nat} {pos : List Loc} {os : OL β} {as : AL α} {os' : OL β'} {rs : AL α'} {F : β → α → Option (β' × α')}
    (hz : ∀ (ls : List Nat) (n : Nat) (φ : Nat → Value), T (φ (backTo (base ++ ls) n 0)) = T (φ l0)) {args : List AV} {σ : AState} {r : AV} {H' : List AObj} (he : entX0 base pos os as os' rs F args σ.heap = some (r, H')) :
    ∃ b a q, F b a = some q ∧ (FnT P T (as.enc (os.lens b) a) (os.enc (os.lens b) b) (fun o H' => o = .ret (tupOf (rs.enc (os'.lens q.1) q.2)) ∧ H' = os'.enc (os'.lens q.1) q.1) → CallT P T l0 args σ (fun o H'' => o = .ret r ∧ H'' = H')) := by
  unfold entX0 at he
  simp only [Option.bind_eq_some_iff] at he
  obtain ⟨ρ, hρ, he⟩ := he
  cases hc : (nodupB ρ && (decide (os.need ≤ ρ.length) && (decide (as.need ≤ ρ.length) && decide (ρ.length ≤ os'.size)))) with
  | false => simp [hc] at he
  | true =>
    simp only [hc, cond_true, Option.bind_eq_some_iff, Option.some.injEq, Prod.mk.injEq] at he
    obtain ⟨xs, hxs, b, hb, a, ha, q, hq, rfl, rfl⟩ := he
    refine ⟨b, a, q, hq, fun hfn => ?_⟩
    simp only [Bool.and_eq_true, decide_eq_true_eq] at hc
    obtain ⟨hnd, n1, n2, n3⟩ := hc
    obtain ⟨h1, h2⟩ := mapO_get hxs
    have hcov : ∀ m, m ≤ ρ.length → Cov ρ m σ.heap.length := by
      intro m hm k hk
      have hk' : k < ρ.length := by omega
      obtain ⟨x, hx, hx'⟩ := h2 k _ (List.getElem?_eq_getElem hk')
      exact ⟨_, List.getElem?_eq_getElem hk', (List.getElem?_eq_some_iff.1 hx').1⟩
    have hL : os.lens b = lnOf xs := funext fun k => os.lensOK ρ _ _ _ _ hb k
    obtain ⟨h3, h4⟩ := os.ok ρ _ σ.heap σ.heap.length _ _ (hcov _ n1) hb
    have hback : ∀ l, l < ρ.length → atN ρ l = backTo ρ σ.heap.length l := fun l hl => by unfold backTo atN; rw [if_pos hl]
    rw [← hL] at ha h4
    obtain ⟨ls, hls⟩ := locs_pre hρ
    refine callXT hT hfn (nodupB_ok hnd) (by rw [h1, h3, os.sz]) (by rw [os'.sz]; exact n3) (fun φ => by rw [hls]; exact hz ls _ φ) ?_ ?_
    · intro i k hi
      obtain ⟨x, hx, hx'⟩ := h2 i k hi
      have hlt : i < (os.enc (os.lens b) b).length := by rw [os.sz, ← h3, ← h1]; exact (List.getElem?_eq_some_iff.1 hi).1
      have hy := List.getElem?_eq_getElem hlt
      obtain ⟨x2, hx2, hcc⟩ := h4 i _ hy
      rw [hx] at hx2; cases hx2
      refine ⟨x, _, hx', hy, ?_⟩
      rw [← objRen_congr (n := os.need) (fun l hl => hback l (by omega)) _ (os.nb _ _ _ (List.mem_of_getElem? hy))]
      exact hcc
    · rw [← renL_congr (n := as.need) (fun l hl => hback l (by omega)) _ (as.nb _ _)]
      exact as.ok ρ _ σ.heap _ _ _ (hcov _ n2) ha

theorem entX_ok {P : Program} {f : FuncId} {pos : List Loc} {os : OL β} {as : AL α} {os' : OL β'} {rs : AL α'} {F : β → α → Option (β' × α')}
    (h : ∀ b a r, F b a = some r → FnG P f (as.enc (os.lens b) a) (os.enc (os.lens b) b) (fun o H' => o = .ret (tupOf (rs.enc (os'.lens r.1) r.2)) ∧ H' = os'.enc (os'.lens r.1) r.1)) : EntOK P f (entX pos os as os' rs F) := by
  intro args σ r H' he
  obtain ⟨b, a, q, hq, hcall⟩ := entX0_ok (P := P) (T := fun _ w vs R => Calls P f vs w R) (l0 := 0) calls_mono (fun _ _ _ => rfl) he
  exact ⟨(h b a q hq).1, hcall (h b a q hq).2⟩

theorem entY_ok {P : Program} {pos : List Loc} {os : OL β} {as : AL α} {os' : OL β'} {rs : AL α'} {F : β → α → Option (β' × α')}
    (h : ∀ b a r, F b a = some r → FnT P (Rounds P) (as.enc (os.lens b) a) (os.enc (os.lens b) b) (fun o H' => o = .ret (tupOf (rs.enc (os'.lens r.1) r.2)) ∧ H' = os'.enc (os'.lens r.1) r.1))
    {l : Nat} {args : List AV} {σ : AState} {r : AV} {H' : List AObj} (he : entY pos os as os' rs F l args σ.heap = some (r, H')) : YieldA P l args σ (fun o H'' => o = .ret r ∧ H'' = H') := by
  unfold entY at he
  split at he
  · rename_i k slots st pend hk
    rw [pcond_some] at he
    obtain ⟨hlen, he⟩ := he
    obtain ⟨b, a, q, hq, hcall⟩ := entX0_ok (P := P) (T := Rounds P) (l0 := l) rounds_mono (fun ls n φ => by simp [backTo]) he
    exact ⟨⟨k, slots, st, pend, hk, hlen⟩, hcall (h b a q hq)⟩
  · cases he
noncomputable def tabY : List (Nat × (Nat → Ent)) → Nat → Ent
  | [], _, _, _ => none
  | (l', e) :: t, l, args, H => bif l == l' then e l args H else tabY t l args H
theorem tabY_nil_ok {P : Program} : ∀ (l : Nat) (args : List AV) (σ : AState) (r : AV) (H' : List AObj), tabY [] l args σ.heap = some (r, H') → YieldA P l args σ (fun o H'' => o = .ret r ∧ H'' = H') := by
  intro l args σ r H' h; cases h
theorem tabY_cons_ok {P : Program} {l' : Nat} {e : Nat → Ent} {t : List (Nat × (Nat → Ent))} (h1 : ∀ (l : Nat) (args : List AV) (σ : AState) (r : AV) (H' : List AObj), e l args σ.heap = some (r, H') → YieldA P l args σ (fun o H'' => o = .ret r ∧ H'' = H'))
    (h2 : ∀ (l : Nat) (args : List AV) (σ : AState) (r : AV) (H' : List AObj), tabY t l args σ.heap = some (r, H') → YieldA P l args σ (fun o H'' => o = .ret r ∧ H'' = H')) :
    ∀ (l : Nat) (args : List AV) (σ : AState) (r : AV) (H' : List AObj), tabY ((l', e) :: t) l args σ.heap = some (r, H') → YieldA P l args σ (fun o H'' => o = .ret r ∧ H'' = H') := by
  intro l args σ r H' h
  simp only [tabY] at h
  cases hl : l == l' with
  | true => rw [hl, cond_true] at h; exact h1 l args σ r H' h
  | false => rw [hl, cond_false] at h; exact h2 l args σ r H' h
end entX

section outX
variable {α β γ : Type}
def outL (xs : List AV) (pos : List Loc) (base : List Nat) (low : Nat) (os : OL β) (s : AL α) (σ : AState) : Option (β × α) :=
  (locs xs σ.heap pos base).bind fun ρ => bif nodupB ρ && ((σ.low == low) && (decide (low ≤ os.size) && (decide (os.need ≤ os.size) && decide (s.need ≤ os.size)))) then
    (mapO (getAt σ.heap) ρ).bind fun ys => (os.dec ρ (lnOf ys) σ.heap ys).bind fun b => (s.dec ρ (lnOf ys) σ.heap xs).bind fun a => some (b, a) else none
def outS (P : Program) (rs : List ResultVar) (pos : List Loc) (base : List Nat) (low : Nat) (os : OL β) (s : AL α) (σ : AState) : Option (β × α) :=
  (resList P σ rs).bind fun xs => outL xs pos base low os s σ

theorem outL_ok {xs : List AV} {pos : List Loc} {base : List Nat} {low : Nat} {os : OL β} {s : AL α} {σ : AState} {r : β × α} (hbase : base = List.range low) (h : outL xs pos base low os s σ = some r) :
    Imp ⟨xs, σ.heap, σ.low⟩ ⟨s.enc (os.lens r.1) r.2, os.enc (os.lens r.1) r.1, σ.low⟩ := by
  unfold outL at h
  simp only [Option.bind_eq_some_iff] at h
  obtain ⟨ρ, hρ, h⟩ := h
  cases hc : (nodupB ρ && ((σ.low == low) && (decide (low ≤ os.size) && (decide (os.need ≤ os.size) && decide (s.need ≤ os.size))))) with
  | false => simp [hc] at h
  | true =>
    simp only [hc, cond_true, Option.bind_eq_some_iff, Option.some.injEq] at h
    obtain ⟨ys, hys, b, hb, a, ha, rfl⟩ := h
    simp only [Bool.and_eq_true, decide_eq_true_eq, beq_iff_eq] at hc
    obtain ⟨hnd, h1, n1, n2, n3⟩ := hc
    obtain ⟨ls, hls⟩ := locs_pre hρ
    obtain ⟨g1, g2⟩ := mapO_get hys
    have hL : os.lens b = lnOf ys := funext fun k => os.lensOK ρ _ _ _ _ hb k
    rw [← hL] at hb ha
    have hsize : ρ.length = os.size := by
      have : ys.length = os.size := os.szOK _ _ _ _ _ hb
      rw [g1, this]
    intro C φ a' w S
    have hcov : ∀ m, m ≤ ρ.length → Cov ρ m σ.heap.length := by
      intro m hm k hk
      have hk' : k < ρ.length := by omega
      obtain ⟨x, hx, hx'⟩ := g2 k _ (List.getElem?_eq_getElem hk')
      exact ⟨_, List.getElem?_eq_getElem hk', (List.getElem?_eq_some_iff.1 hx').1⟩
    let Ys := os.enc (os.lens b) b
    have hYl : Ys.length = os.size := os.sz _ _
    let H1 := setAll σ.heap ρ (Ys.map (AObj.ren (atN ρ)))
    have hl1 : H1.length = σ.heap.length := setAll_length _ _ _
    obtain ⟨_, h4⟩ := os.ok ρ _ σ.heap σ.heap.length _ _ (hcov _ (by omega)) hb
    have hat : ∀ (i k : Nat) (y : AObj), ρ[i]? = some k → Ys[i]? = some y → ∃ x, σ.heap[k]? = some x ∧ CoObj σ.heap σ.heap.length x (y.ren (atN ρ)) ∧ H1[k]? = some (y.ren (atN ρ)) := by
      intro i k y hi hy
      obtain ⟨x, hx, hx'⟩ := g2 i k hi
      obtain ⟨x2, hx2, hcc⟩ := h4 i y hy
      rw [hx] at hx2; cases hx2
      exact ⟨x, hx', hcc, setAll_at ρ σ.heap _ i k _ (nodupB_ok hnd) hi (by rw [List.getElem?_map, hy]; rfl) (List.getElem?_eq_some_iff.1 hx').1⟩
    have hw : Weak ⟨xs, σ.heap, σ.low⟩ ⟨renL (atN ρ) (s.enc (os.lens b) a), H1, σ.low⟩ := by
      refine ⟨⟨rfl, by show σ.low ≤ H1.length; rw [hl1]; exact S.low.2⟩, ?_, ?_⟩
      · show CoL σ.heap H1.length _ _
        rw [hl1]
        exact s.ok ρ _ σ.heap _ _ _ (hcov _ (by omega)) ha
      · show CoH σ.heap H1.length σ.heap H1
        rw [hl1]
        refine coH_of_get fun k y hy => ?_
        by_cases hk : k ∈ ρ
        · obtain ⟨i, hi⟩ := List.getElem?_of_mem hk
          have hlt : i < Ys.length := by rw [hYl, ← hsize]; exact (List.getElem?_eq_some_iff.1 hi).1
          obtain ⟨x, hx, hc, hy'⟩ := hat i k _ hi (List.getElem?_eq_getElem hlt)
          rw [hy'] at hy; cases hy
          exact ⟨x, hx, hc⟩
        · have hy2 : σ.heap[k]? = some y := by rw [← hy]; exact (setAll_other ρ σ.heap _ k hk).symm
          exact ⟨y, hy2, .inr (.inl ⟨rfl, objNb_rep (S.objs k y hy2)⟩)⟩
    obtain ⟨φ', S1⟩ := hw.imp C φ _ w S
    refine imp_select (ρ := ρ) (Ys := Ys) (by rw [hsize, hYl]) (nodupB_ok hnd) ?_ (by rw [hYl]; omega) (nbL_le (by omega) _ (s.nb _ _)) (fun y hy => objNb_le' (by omega) _ (os.nb _ _ y hy)) ?_ C φ' a' w S1
    · intro k hk
      rw [hls, hbase, List.getElem?_append_left (by rw [List.length_range]; omega), List.getElem?_range (by omega)]
    · intro i k y hi hy
      obtain ⟨x, _, _, hy'⟩ := hat i k y hi hy
      exact hy'
theorem outS_ok {P : Program} {rs : List ResultVar} {pos : List Loc} {base : List Nat} {low : Nat} {os : OL β} {s : AL α} {σ : AState} {r : β × α} (hbase : base = List.range low) (h : outS P rs pos base low os s σ = some r) :
    ∃ xs, resList P σ rs = some xs ∧ ImpE ⟨xs, σ.heap, σ.low⟩ ⟨s.enc (os.lens r.1) r.2, os.enc (os.lens r.1) r.1, σ.low⟩ := by
  unfold outS at h
  simp only [Option.bind_eq_some_iff] at h
  obtain ⟨xs, hx, h⟩ := h
  exact ⟨xs, hx, (outL_ok hbase h).e⟩
end outX
end Go.Abs
namespace Go.Abs
theorem max_le_dec {a b c : Nat} : decide (max a b ≤ c) = (decide (a ≤ c) && decide (b ≤ c)) := by
  rw [Bool.eq_iff_iff]
  simp only [decide_eq_true_eq, Bool.and_eq_true]
  exact Nat.max_le
theorem lnOf_def {xs : List AObj} {k : Nat} : lnOf xs k = (accLen xs[k]?).getD 0 := rfl
theorem accLen_f : (∀ i s r, accLen (some (.acc i s r)) = some r.length) ∧ (∀ c, accLen (some (.cells c)) = none) ∧ (∀ e, accLen (some (.map e)) = none) ∧ accLen (some .dead) = none ∧ accLen none = none := ⟨fun _ _ _ => rfl, fun _ => rfl, fun _ => rfl, rfl, rfl⟩
theorem lolC_f {a : Nat} {f : Lens} : lolC a f 0 = a ∧ ∀ k, lolC a f (k + 1) = f k := ⟨rfl, fun _ => rfl⟩
theorem lolC_1 {a : Nat} {f : Lens} : lolC a f 1 = f 0 := rfl
theorem lolC_2 {a : Nat} {f : Lens} : lolC a f 2 = f 1 := rfl
theorem lolC_3 {a : Nat} {f : Lens} : lolC a f 3 = f 2 := rfl
theorem lolC_4 {a : Nat} {f : Lens} : lolC a f 4 = f 3 := rfl
theorem lolC_5 {a : Nat} {f : Lens} : lolC a f 5 = f 4 := rfl
theorem lolC_6 {a : Nat} {f : Lens} : lolC a f 6 = f 5 := rfl
theorem vlN_n : vlN.need = 0 := rfl
theorem vlT_n {α β : Type} {t : Ty α} {s : VL β} : (vlT t s).need = s.need := rfl
theorem vlP_n {β : Type} {k : Nat} {s : VL β} : (vlP k s).need = max (k + 1) s.need := rfl
theorem vlM_n {β : Type} {k : Nat} {s : VL β} : (vlM k s).need = max (k + 1) s.need := rfl
theorem vlF_n {α β : Type} {f : FuncId} {c : VL α} {s : VL β} : (vlF f c s).need = max c.need s.need := rfl
attribute [go_sem] vlN_n vlT_n vlP_n vlM_n vlF_n vlN_f vlT_f vlP_f vlM_f vlF_f alN_f alT_f alC_f alP_f alM_f alA_f alF_f alZ_f alZs ogA_f ogC_f olN_f olC_f dvlN dvlT dvlP dvlM dvlF dalT dalC dalP dalM dalA dalF dalZ docC dolN dolC
  entX outS locs locN nameV down cellAt lnOf_def accLen_f Option.getD_some Option.getD_none lolC_f lolC_1 lolC_2 lolC_3 lolC_4 lolC_5 lolC_6 max_le_dec Option.some.injEq
end Go.Abs
namespace Go.Abs

def stJ (lk : LoopC) (j : Int) : LoopState := stP (pendOf lk.js j)
theorem stJ_zero {lk : LoopC} : stJ lk 0 = .ready := rfl

section ogL
variable {γ β : Type}
noncomputable def dogL (lk : LoopC) (c : AL γ) (ρ : List Nat) (L : Lens) (H : List AObj) : AObj → Option (γ × Int)
  | .loop lk' slots st j => pcond (lk' = lk ∧ st = stJ lk j) ((c.dec ρ L H slots).bind fun g => some (g, j))
  | _ => none
noncomputable def ogL (lk : LoopC) (c : AL γ) : OG (γ × Int) where
  enc L g := .loop lk (c.enc L g.1) (stJ lk g.2) g.2
  dec := dogL lk c
  len _ := 0
  need := c.need
  nb L g := c.nb L g.1
  ok ρ L H n x g hv h := by
    unfold dogL at h
    split at h
    · simp only [pcond_some, Option.bind_eq_some_iff, Option.some.injEq] at h
      obtain ⟨⟨rfl, rfl⟩, y, hy, rfl⟩ := h
      exact .inr (.inr (.inr (.inr ⟨_, _, _, _, _, rfl, rfl, c.ok ρ L H n _ _ hv hy⟩)))
    · cases h
  lenOK ρ L H x g h := by
    unfold dogL at h
    split at h
    · rfl
    · cases h
noncomputable def dogL0 (lk : LoopC) (c : AL γ) (ρ : List Nat) (L : Lens) (H : List AObj) : AObj → Option γ
  | .loop lk' slots st j => bif j == 0 then pcond (lk' = lk ∧ st = stJ lk j) (c.dec ρ L H slots) else none
  | _ => none
noncomputable def ogL0 (lk : LoopC) (c : AL γ) : OG γ where
  enc L g := .loop lk (c.enc L g) .ready 0
  dec := dogL0 lk c
  len _ := 0
  need := c.need
  nb L g := c.nb L g
  ok ρ L H n x g hv h := by
    unfold dogL0 at h
    split at h
    · rename_i lk' slots st j
      cases hj : j == 0 with
      | false => rw [hj] at h; cases h
      | true =>
        rw [hj, cond_true] at h
        have hj' : j = 0 := by simpa using hj
        subst hj'
        simp only [pcond_some] at h
        obtain ⟨⟨rfl, rfl⟩, hy⟩ := h
        exact .inr (.inr (.inr (.inr ⟨_, _, _, _, _, rfl, rfl, c.ok ρ L H n _ _ hv hy⟩)))
    · cases h
  lenOK ρ L H x g h := by
    unfold dogL0 at h
    split at h
    · rfl
    · cases h
theorem dogL_f {lk lk' : LoopC} {c : AL γ} {ρ : List Nat} {L : Lens} {H : List AObj} {s : List AV} {st : LoopState} {j : Int} : dogL lk c ρ L H (.loop lk' s st j) = pcond (lk' = lk ∧ st = stJ lk j) ((c.dec ρ L H s).bind fun g => some (g, j)) := rfl
theorem dogL0_f {lk lk' : LoopC} {c : AL γ} {ρ : List Nat} {L : Lens} {H : List AObj} {s : List AV} {st : LoopState} {j : Int} : dogL0 lk c ρ L H (.loop lk' s st j) = bif j == 0 then pcond (lk' = lk ∧ st = stJ lk j) (c.dec ρ L H s) else none := rfl
theorem ogL_f {lk : LoopC} {c : AL γ} : (∀ L g, (ogL lk c).enc L g = .loop lk (c.enc L g.1) (stJ lk g.2) g.2) ∧ (∀ ρ L H x, (ogL lk c).dec ρ L H x = dogL lk c ρ L H x) ∧ (∀ g, (ogL lk c).len g = 0) ∧ (ogL lk c).need = c.need := ⟨fun _ _ => rfl, fun _ _ _ _ => rfl, fun _ => rfl, rfl⟩
theorem ogL0_f {lk : LoopC} {c : AL γ} : (∀ L g, (ogL0 lk c).enc L g = .loop lk (c.enc L g) .ready 0) ∧ (∀ ρ L H x, (ogL0 lk c).dec ρ L H x = dogL0 lk c ρ L H x) ∧ (∀ g, (ogL0 lk c).len g = 0) ∧ (ogL0 lk c).need = c.need := ⟨fun _ _ => rfl, fun _ _ _ _ => rfl, fun _ => rfl, rfl⟩
end ogL

def numJ : List (Int × Code) → AExit → Int
  | (k, .ret) :: _, .ret => k
  | (k, .exit n) :: t, .exit m => bif n == m then k else numJ t (.exit m)
  | _ :: t, e => numJ t e
  | [], _ => 0

section outRd
variable {β : Type}
noncomputable def outR2 (js : List (Int × Code)) (pos : List Loc) (base : List Nat) (low : Nat) (os : OL β) (e : AExit) (σ : AState) : Option AObj → Option (β × (Bool × Unit))
  | some (.loop lk sl .busy 0) => pcond (jumpE e = some (pendOf lk.js (numJ js e))) (outL [.bool (pendOf lk.js (numJ js e)).isNone] pos base low os (alT tyB alN) { σ with heap := σ.heap.set 0 (.loop lk sl (stJ lk (numJ js e)) (numJ js e)) })
  | _ => none
noncomputable def outRd (js : List (Int × Code)) (pos : List Loc) (base : List Nat) (low : Nat) (os : OL β) (e : AExit) (σ : AState) : Option (β × (Bool × Unit)) := outR2 js pos base low os e σ σ.heap[0]?
theorem outR2_f {js : List (Int × Code)} {pos : List Loc} {base : List Nat} {low : Nat} {os : OL β} {e : AExit} {σ : AState} {lk : LoopC} {sl : List AV} : outR2 js pos base low os e σ (some (.loop lk sl .busy 0)) =
    pcond (jumpE e = some (pendOf lk.js (numJ js e))) (outL [.bool (pendOf lk.js (numJ js e)).isNone] pos base low os (alT tyB alN) { σ with heap := σ.heap.set 0 (.loop lk sl (stJ lk (numJ js e)) (numJ js e)) }) := rfl
theorem export_of_imp {σ : AState} {x r : AV} {H' : List AObj} (h : Imp ⟨[x], σ.heap, σ.low⟩ ⟨[r], H', σ.low⟩) : Export σ x r H' := by
  intro C φ a w S v hv
  obtain ⟨φ', S'⟩ := h C φ { tmps := #[v], defers := a.defers } w { S with slots := ⟨v, [], rfl, hv, rfl⟩ }
  obtain ⟨v', _, e, hr, _⟩ := S'.slots
  simp only [List.cons.injEq] at e
  obtain ⟨rfl, _⟩ := e
  exact ⟨φ', { S' with slots := rfl, defers := DefOK.nil }, hr⟩
theorem outRd_ok {js : List (Int × Code)} {pos : List Loc} {base : List Nat} {low : Nat} {os : OL β} {e : AExit} {σ : AState} {r : β × (Bool × Unit)} (hbase : base = List.range low) (h : outRd js pos base low os e σ = some r) :
    rPost (fun o H' => o = .ret (tupOf ((alT tyB alN).enc (os.lens r.1) r.2)) ∧ H' = os.enc (os.lens r.1) r.1) e σ := by
  unfold outRd outR2 at h
  split at h
  · rename_i lk sl hk
    simp only [pcond_some] at h
    obtain ⟨hj, h⟩ := h
    have := outL_ok hbase h
    exact ⟨_, lk, sl, hj, hk, _, _, export_of_imp (σ := { σ with heap := σ.heap.set 0 (.loop lk sl (stJ lk (numJ js e)) (numJ js e)) }) this, rfl, rfl⟩
  · cases h
end outRd

section rules
variable {R : Type} {M : Mach R} {k : List Kt} {σ : AState}
theorem stepR2_J {H' : List AObj} {lk : LoopC} {s : List AV} {j : Int} : stepR2 M k σ H' (some (.loop lk s (stJ lk j) j)) = stepJ M k { σ with heap := H'.set σ.heap.length .dead } (pendOf lk.js j) := by
  rw [stepR2_some]; exact pcond_refl
theorem stepR2_0 {H' : List AObj} {lk : LoopC} {s : List AV} : stepR2 M k σ H' (some (.loop lk s .ready 0)) = stepJ M k { σ with heap := H'.set σ.heap.length .dead } none := by
  rw [stepR2_some]; exact pcond_refl
end rules
theorem renObj_L {τ : Nat → Nat} {lk : LoopC} {s : List AV} {st : LoopState} {j : Int} : (AObj.loop lk s st j).ren τ = .loop lk (renL τ s) st j := rfl
theorem accLen_L {lk : LoopC} {s : List AV} {st : LoopState} {j : Int} : accLen (some (.loop lk s st j)) = none := rfl
theorem cellAt_f {c : Nat} : (∀ xs, cellAt c (some (.cells xs)) = xs[c]?) ∧ (∀ lk xs st j, cellAt c (some (.loop lk xs st j)) = xs[c]?) := ⟨fun _ => rfl, fun _ _ _ _ => rfl⟩
theorem jumpE_f : jumpE .normal = some none ∧ jumpE .ret = some (some .ret) ∧ ∀ id, jumpE (.exit id) = some (some (.exit id)) := ⟨rfl, rfl, fun _ => rfl⟩
theorem numJ_f : (∀ k t, numJ ((k, .ret) :: t) .ret = k) ∧ (∀ k n t, numJ ((k, .exit n) :: t) .ret = numJ t .ret) ∧ (∀ k t m, numJ ((k, .ret) :: t) (.exit m) = numJ t (.exit m)) ∧ (∀ k n t m, numJ ((k, .exit n) :: t) (.exit m) = bif n == m then k else numJ t (.exit m)) ∧
    (∀ js, numJ js .normal = 0) ∧ (∀ e, numJ [] e = 0) :=
  ⟨fun _ _ => rfl, fun _ _ _ => rfl, fun _ _ _ => rfl, fun _ _ _ _ => rfl, fun js => by induction js with | nil => rfl | cons x t ih => obtain ⟨k, c⟩ := x; cases c <;> exact ih, fun _ => rfl⟩
noncomputable def entYo {α β α' β' : Type} (pos : List Loc) (os : OL β) (as : AL α) (os' : OL β') (rs : AL α') (F : β → α → Option (β' × α')) (l : Nat) (args : List AV) (H : List AObj) : Option AObj → Option (AV × List AObj)
  | some (.loop k _ _ _) => pcond (args.length = k.ps.size) (entX0 [l] pos os as os' rs F args H)
  | _ => none
theorem entY_o {α β α' β' : Type} {pos : List Loc} {os : OL β} {as : AL α} {os' : OL β'} {rs : AL α'} {F : β → α → Option (β' × α')} {l : Nat} {args : List AV} {H : List AObj} :
    entY pos os as os' rs F l args H = entYo pos os as os' rs F l args H H[l]? := rfl
theorem entYo_f {α β α' β' : Type} {pos : List Loc} {os : OL β} {as : AL α} {os' : OL β'} {rs : AL α'} {F : β → α → Option (β' × α')} {l : Nat} {args : List AV} {H : List AObj} {k : LoopC} {s : List AV} {st : LoopState} {j : Int} :
    entYo pos os as os' rs F l args H (some (.loop k s st j)) = pcond (args.length = k.ps.size) (entX0 [l] pos os as os' rs F args H) := rfl
def asgnC : Code → Code
  | .rangeFunc _ _ a _ => a
  | _ => .skip
def bdyC : Code → Code
  | .rangeFunc _ _ _ b => b
  | _ => .skip
attribute [go_sem] asgnC bdyC
def tabJ : List (List Nat × List (Int × Code)) → List Nat → List (Int × Code)
  | [], _ => []
  | (p', js) :: t, p => if p = p' then js else tabJ t p
theorem ready_J {lk : LoopC} : (LoopState.ready = stJ lk 0) = True := by simp [stJ_zero]
noncomputable def oLf (zs : List NZ) (H : List AObj) (n : Nat) : AObj → Option AObj
  | .loop lk s st j => pcond (st = stJ lk j) ((zipZ zs H n s).bind fun ds => some (.loop lk ds (stJ lk j) j))
  | _ => none
noncomputable def oL (zs : List NZ) : ZO := ⟨oLf zs, fun H n x y h => by
  unfold oLf at h
  split at h
  · simp only [pcond_some, Option.bind_eq_some_iff, Option.some.injEq] at h
    obtain ⟨rfl, ds, hd, rfl⟩ := h
    exact .inr (.inr (.inr (.inr ⟨_, _, _, _, _, rfl, rfl, zipZ_ok hd⟩)))
  · cases h⟩
theorem oL_f {zs : List NZ} {H : List AObj} {n : Nat} {lk : LoopC} {s : List AV} {st : LoopState} {j : Int} : (oL zs).f H n (.loop lk s st j) = pcond (st = stJ lk j) ((zipZ zs H n s).bind fun ds => some (.loop lk ds (stJ lk j) j)) := rfl
attribute [go_sem] ready_J oL_f ogL_f ogL0_f dogL_f dogL0_f outRd outR2_f outL entX0 stepR2_J stepR2_0 renObj_L accLen_L cellAt_f jumpE_f numJ_f entY_o entYo_f tabY
end Go.Abs
namespace Go.Abs

def mcB (p : Str × Bool) : AV × AV := (.str (sb p.1), .bool p.2)
def plFind {α : Type} (s : Str) : List (Str × α) → Option α
  | [] => none
  | (k, v) :: es => bif s == k then some v else plFind s es
def plSet {α : Type} (s : Str) (v : α) : List (Str × α) → List (Str × α)
  | [] => [(s, v)]
  | (k, u) :: es => bif s == k then (k, v) :: es else (k, u) :: plSet s v es
theorem sb_beq (a b : Str) : (sb a == sb b) = (a == b) := by
  rw [Bool.eq_iff_iff, MapKept.bytes_beq, beq_iff_eq]
  constructor
  · intro h
    have := congrArg ByteArray.toList h
    rwa [sb_toList, sb_toList] at this
  · rintro rfl; rfl
theorem mapStr_map : ∀ xs : List (Str × Bool), mapStr (xs.map mcB) = true
  | [] => rfl
  | _ :: xs => mapStr_map xs
theorem mapStr_mp (xs : List (Str × Bool)) : mapStr (mp mcB xs) = true := by rw [mp_eq]; exact mapStr_map xs
theorem mapFind_map (s : Str) : ∀ xs : List (Str × Bool), mapFind (sb s) (xs.map mcB) = (plFind s xs).map AV.bool
  | [] => rfl
  | (k, v) :: xs => by
    show (bif sb s == sb k then some (AV.bool v) else mapFind (sb s) (xs.map mcB)) = _
    rw [sb_beq, mapFind_map s xs]
    simp only [plFind]
    cases s == k <;> rfl
theorem mapFind_mp (s : Str) (xs : List (Str × Bool)) : mapFind (sb s) (mp mcB xs) = (plFind s xs).map AV.bool := by rw [mp_eq]; exact mapFind_map s xs
theorem mapSet_map (s : Str) (v : Bool) : ∀ xs : List (Str × Bool), mapSet (sb s) (.bool v) (xs.map mcB) = (plSet s v xs).map mcB
  | [] => rfl
  | (k, u) :: xs => by
    show (bif sb s == sb k then (AV.str (sb k), AV.bool v) :: xs.map mcB else (AV.str (sb k), AV.bool u) :: mapSet (sb s) (.bool v) (xs.map mcB)) = _
    rw [sb_beq, mapSet_map s v xs]
    simp only [plSet]
    cases s == k <;> rfl
theorem mapSet_mp (s : Str) (v : Bool) (xs : List (Str × Bool)) : mapSet (sb s) (.bool v) (mp mcB xs) = mp mcB (plSet s v xs) := by rw [mp_eq, mp_eq]; exact mapSet_map s v xs
theorem mapGet_bool (o : Option Bool) (z : Bool) : (o.map AV.bool).getD (.bool z) = .bool (o.getD z) := by cases o <;> rfl
theorem map_nil_mp : AObj.map [] = .map (mp mcB []) := by rw [mp_eq]; rfl
theorem lookEff_mp {z : AV} {l : Nat} {s : Str} {xs : List (Str × Bool)} : lookEff z l (sb s) (some (.map (mp mcB xs))) = some { val := ((plFind s xs).map AV.bool).getD z, rd := [l] } := by
  simp only [lookEff, mapStr_mp, if_true, mapFind_mp]
theorem mapUpEff_mp {l : Nat} {s : Str} {v : Bool} {xs : List (Str × Bool)} : mapUpEff l (sb s) (.bool v) (some (.map (mp mcB xs))) = some { val := .any, rd := [l], up := [(l, .map (mp mcB (plSet s v xs)))] } := by
  simp only [mapUpEff, mapStr_mp, if_true, mapSet_mp]
theorem mapNb_mp (n : Nat) (xs : List (Str × Bool)) : objNb n (.map (mp mcB xs)) = True := by
  refine eq_true fun p hp => ?_
  rw [mp_eq, List.mem_map] at hp
  obtain ⟨q, _, rfl⟩ := hp
  exact ⟨trivial, trivial⟩
theorem mapRen_mp (ρ : Nat → Nat) (xs : List (Str × Bool)) : (mp mcB xs).map (fun p => (AV.ren ρ p.1, AV.ren ρ p.2)) = mp mcB xs := by
  rw [mp_eq, List.map_map]
  exact List.map_congr_left fun _ _ => rfl
theorem mapNbF_mp (n : Nat) (xs : List (Str × Bool)) : (∀ p : AV × AV, p ∈ mp mcB xs → AV.nb n p.1 ∧ AV.nb n p.2) = True := mapNb_mp n xs
attribute [go_sem high] mapRen_mp mapNbF_mp
def ddB : AV × AV → Option (Str × Bool)
  | (.str s, .bool b) => some (s.toList, b)
  | _ => none
theorem ddB_ok {p : AV × AV} {q : Str × Bool} (h : ddB p = some q) : p = mcB q := by
  unfold ddB at h
  split at h
  · rename_i s b
    simp only [Option.some.injEq] at h
    subst h
    simp only [mcB, Prod.mk.injEq, AV.str.injEq, and_true]
    obtain ⟨⟨l⟩⟩ := s
    rw [ByteArray.toList_eq]; rfl
  · cases h
theorem mapO_ddB' : ∀ {es : List (AV × AV)} {xs : List (Str × Bool)}, mapO ddB es = some xs → es = xs.map mcB
  | [], xs, h => by simp only [mapO, Option.some.injEq] at h; subst h; rfl
  | p :: es, xs, h => by
    simp only [mapO, Option.bind_eq_some_iff, Option.some.injEq] at h
    obtain ⟨q, hq, ys, hys, rfl⟩ := h
    rw [ddB_ok hq, mapO_ddB' hys]; rfl
theorem mapO_ddB {es : List (AV × AV)} {xs : List (Str × Bool)} (h : mapO ddB es = some xs) : es = mp mcB xs := by rw [mp_eq]; exact mapO_ddB' h
theorem map_ren (τ : Nat → Nat) (xs : List (Str × Bool)) : (AObj.map (mp mcB xs)).ren τ = .map (mp mcB xs) := by
  rw [mp_eq]
  show AObj.map ((xs.map mcB).map _) = _
  congr 1
  rw [List.map_map]
  exact List.map_congr_left fun p _ => by obtain ⟨s, b⟩ := p; rfl
def daM : AObj → Option (List (Str × Bool))
  | .map es => mapO ddB es
  | _ => none
theorem daM_mp {xs : List (Str × Bool)} : daM (.map (mp mcB xs)) = some xs := by
  show mapO ddB (mp mcB xs) = some xs
  exact mapO_mp (fun x => by obtain ⟨s, b⟩ := x; show some ((sb s).toList, b) = _; rw [sb_toList]) xs
theorem daM_ok {x : AObj} {xs : List (Str × Bool)} (h : daM x = some xs) : x = .map (mp mcB xs) := by
  unfold daM at h
  split at h
  · rw [mapO_ddB h]
  · cases h
def ogM : OG (List (Str × Bool)) where
  enc _ xs := .map (mp mcB xs)
  dec _ _ _ := daM
  len _ := 0
  need := 0
  nb L g := of_eq_true (mapNb_mp 0 g)
  ok ρ L H n x g _ h := by
    rw [daM_ok h]
    rw [map_ren]
    exact .inr (.inl ⟨rfl, of_eq_true (mapNb_mp n g)⟩)
  lenOK ρ L H x g h := by
    rw [daM_ok h]; rfl
theorem ogM_f : (∀ L g, ogM.enc L g = .map (mp mcB g)) ∧ (∀ ρ L H x, ogM.dec ρ L H x = daM x) ∧ (∀ g, ogM.len g = 0) ∧ ogM.need = 0 := ⟨fun _ _ => rfl, fun _ _ _ _ => rfl, fun _ => rfl, rfl⟩
def gAt : List (List Nat × List (Nat × Nat × Nat)) → List Nat → AState → AState
  | [], _, σ => σ
  | (q, g) :: t, p, σ => if p = q then gCells g σ else gAt t p σ
noncomputable def tabG (fs : List (List Nat × List Nat)) (gs : List (List Nat × List (Nat × Nat × Nat))) (p : List Nat) (σ : AState) : Option AState := (tabF fs p σ).map (gAt gs p)
attribute [go_sem] gAt tabG
attribute [go_sem] lookEff_mp mapUpEff_mp mapGet_bool map_nil_mp daM_mp ogM_f map_ren
attribute [go_sem high] mapNb_mp
end Go.Abs
namespace Go.Abs
def Tup (α : Type) : Nat → Type
  | 0 => Unit
  | n + 1 => α × Tup α n
section tup
variable {α : Type}
def tupEnc (c : α → List AV) : (n : Nat) → Tup α n → List AV
  | 0, _ => []
  | n + 1, x => c x.1 ++ tupEnc c n x.2
def tupDec (d : List AV → Option α) (sz : Nat) : (n : Nat) → List AV → Option (Tup α n)
  | 0, cs => if cs.isEmpty = true then some () else none
  | n + 1, cs => (d (cs.take sz)).bind fun x => (tupDec d sz n (cs.drop sz)).bind fun t => some (x, t)
theorem tupNb {c : α → List AV} (h : ∀ n x, nbL n (c x)) (k : Nat) : ∀ (n : Nat) (v : Tup α n), nbL k (tupEnc c n v)
  | 0, _ => trivial
  | n + 1, v => nbL_append (h k v.1) (tupNb h k n v.2)
theorem tupOk {c : Cel α} {H : List AObj} {m sz : Nat} : ∀ {n : Nat} {cs : List AV} {v : Tup α n}, tupDec (c.dec H) sz n cs = some v → CoL1 H m cs (tupEnc c.enc n v)
  | 0, cs, v, h => by
    simp only [tupDec] at h
    split at h
    · rename_i he
      rw [List.isEmpty_iff] at he
      subst he; exact CoL1.nil
    · cases h
  | n + 1, cs, v, h => by
    simp only [tupDec, Option.bind_eq_some_iff] at h
    obtain ⟨x, hx, t, ht, he⟩ := h
    obtain rfl : (x, t) = v := Option.some.inj he
    have := CoL1.append (c.ok H m _ _ hx) (tupOk (c := c) (m := m) ht)
    rw [List.take_append_drop] at this
    exact this
def cA (c : Cel α) (sz n : Nat) : Cel (Tup α n) where
  enc v := tupEnc c.enc n v
  dec H cs := tupDec (c.dec H) sz n cs
  ok H m cs v h := tupOk h
  nb k v := tupNb c.nb k n v
theorem cA_f {c : Cel α} {sz n : Nat} : (∀ v, (cA c sz n).enc v = tupEnc c.enc n v) ∧ ∀ H cs, (cA c sz n).dec H cs = tupDec (c.dec H) sz n cs := ⟨fun _ => rfl, fun _ _ => rfl⟩
end tup
attribute [go_sem] cA_f
def sscell (xs : List Str) : List AV := [.lst false 1 (mp scell xs)]
def dSS1 : List AV → Option (List Str)
  | [c] => dL rowS [] c
  | _ => none
theorem scell_nbR (n : Nat) (xs : List Str) : nbR n (mp scell xs) := nbR_rows (r := rowS) xs
def rowSS : Row (List Str) where
  enc := sscell
  dec := dSS1
  sz := 1
  ok r x h := by
    unfold dSS1 at h
    split at h
    · exact SubE.cons (Co1.toSub (n := 0) (dL_ok h)) SubE.nil
    · cases h
  nb n x := ⟨scell_nbR n x, trivial⟩
theorem rowSS_f : rowSS.enc = sscell ∧ rowSS.dec = dSS1 ∧ rowSS.sz = 1 := ⟨rfl, rfl, rfl⟩
theorem dSS1_cell (x : List Str) : dSS1 (sscell x) = some x := by
  simp only [dSS1, sscell, dL, szOK, rowS_f, beq_self_eq_true, Bool.true_or, cond_true, mapO_cells1]
theorem mapO_ss (xs : List (List Str)) : mapO dSS1 (mp sscell xs) = some xs := mapO_mp dSS1_cell xs
theorem ss_nbs : ∀ (n : Nat) (xs : List (List Str)), nbR n (mp sscell xs) = True := fun n xs => eq_true (nbR_rows (r := rowSS) xs)
theorem ss_rens : ∀ (ρ : Nat → Nat) (xs : List (List Str)), renR ρ (mp sscell xs) = mp sscell xs := fun ρ xs => renR_of_nb ρ _ (nbR_rows (r := rowSS) xs)
attribute [go_sem] sscell dSS1 rowSS_f mapO_ss ss_nbs ss_rens
end Go.Abs
namespace Go.Abs

end Go.Abs
namespace Go.Abs
section lend
variable {C : Ctx} {φ : Nat → Value} {σ : AState} {a : Act} {w : World}
def toImm : AObj → AObj
  | .acc _ sz rows => .acc true sz rows
  | x => x
def vwN (H : List AObj) : List AV → Option (List AV)
  | [] => some []
  | .agg cs :: r => (vwL H cs).bind fun p => (vwN H r).bind fun q => some (.agg p.1 :: q)
  | c :: r => (vwL H [c]).bind fun p => (vwN H r).bind fun q => some (p.1 ++ q)
def num1 (l : Nat) : AV → AV
  | .int k n => .int k n
  | .bool b => .bool b
  | .str s => .str s
  | .lst _ _ _ => .acc l 0
  | _ => .any
def num2 (l : Nat) : AV → AV
  | .agg cs => .agg (cs.map (num1 l))
  | x => num1 l x
def num (l : Nat) : AV → AV
  | .tup cs => .tup (cs.map (num2 l))
  | x => num2 l x
def firstC : List AObj → Nat → Option Nat
  | [], _ => none
  | .cells _ :: _, n => some n
  | _ :: r, n => firstC r (n + 1)
section
variable {E E' : Env} {l : Nat}
end
noncomputable def entB (e : EntD) : Ent := fun args H => pcond (¬ nbL 0 args) ((firstC H 0).bind fun l => (vwN (H.map toImm) args).bind fun as => (e as).bind fun r => some (num l r, H))
end lend
end Go.Abs
namespace Go.Abs
theorem pcond_no {R : Type} {x : Option R} : pcond False x = none := by simp [pcond]
theorem not_nb : (¬ True) = False ∧ (¬ False) = True := ⟨by simp, by simp⟩
theorem nbR_set {n : Nat} {r : List AV} : ∀ {rows : List (List AV)} {i : Nat}, nbR n rows → nbR n (rows.set i r) = (rows.length ≤ i ∨ nbL n r)
  | [], _, _ => eq_true trivial |>.trans (eq_true (.inl (Nat.zero_le _))).symm
  | _ :: _, 0, h => by
    have e : (nbL n r ∧ nbR n _) = nbL n r := propext ⟨fun q => q.1, fun q => ⟨q, h.2⟩⟩
    show (nbL n r ∧ nbR n _) = _
    rw [e]
    exact propext ⟨.inr, fun q => q.elim (fun q => absurd q (Nat.not_succ_le_zero _)) id⟩
  | _ :: rows, i + 1, h => by
    show (nbL n _ ∧ nbR n (rows.set i r)) = _
    rw [nbR_set (rows := rows) (i := i) h.2]
    exact propext ⟨fun q => q.2.imp Nat.succ_le_succ id, fun q => ⟨h.1, q.imp Nat.le_of_succ_le_succ id⟩⟩
theorem pcond_bind {R S : Type} {p : Prop} {x : Option R} {f : R → Option S} : (pcond p x).bind f = pcond p (x.bind f) := by
  unfold pcond
  split <;> rfl
theorem idxA_set {α β : Type} {xs : List α} {r : α} {n : Int} {f : α → Option β} : (idxA (xs.set n.toNat r) n).bind f = bif decide (0 ≤ n) && decide (n.toNat < xs.length) then f r else none := by
  unfold idxA
  by_cases h0 : 0 ≤ n
  · by_cases h1 : n.toNat < xs.length
    · rw [if_pos h0, List.getElem?_set_self h1, decide_eq_true h0, decide_eq_true h1]; rfl
    · rw [if_pos h0, List.getElem?_eq_none (by rw [List.length_set]; omega), decide_eq_true h0, decide_eq_false h1]; rfl
  · rw [if_neg h0, decide_eq_false h0]; rfl
theorem get_set {α β : Type} {xs : List α} {r : α} {i : Nat} {f : α → Option β} : ((xs.set i r)[i]?).bind f = bif decide (i < xs.length) then f r else none := by
  by_cases h1 : i < xs.length
  · rw [List.getElem?_set_self h1, decide_eq_true h1]; rfl
  · rw [List.getElem?_eq_none (by rw [List.length_set]; omega), decide_eq_false h1]; rfl
theorem entAlt_okD {P : Program} {f : FuncId} {e e' : Ent} (h : EntDOK P f (entD e)) (h' : EntDOK P f (entD e')) : EntDOK P f (entD (entAlt e e')) := by
  intro args r he
  unfold entD at he
  obtain ⟨hn, he⟩ := pcond_some.1 he
  rw [Option.bind_eq_some_iff] at he
  obtain ⟨q, hq, he⟩ := he
  unfold entAlt at hq
  rw [Option.or_eq_some_iff] at hq
  rcases hq with hq | ⟨_, hq⟩
  · exact h args r (pcond_some.2 ⟨hn, by rw [hq]; exact he⟩)
  · exact h' args r (pcond_some.2 ⟨hn, by rw [hq]; exact he⟩)
theorem scell_nbset (n : Nat) (xs : List Str) (i : Nat) (r : List AV) : nbR n ((mp scell xs).set i r) = (xs.length ≤ i ∨ nbL n r) := by
  rw [nbR_set (rows := mp scell xs) (nbR_rows (r := rowS) xs), mp_length]
def runeB (n : Int) : Str := (Utf8.encode n).data.toList
theorem encode_sb (n : Int) : Utf8.encode n = sb (runeB n) := (sb_data _).symm
theorem or_bind_some {α β : Type} {x y : Option α} {g : α → β} : (x.bind fun r => some (g r)).or (y.bind fun r => some (g r)) = (x.or y).bind fun r => some (g r) := by cases x <;> rfl
def dLt' {α : Type} (r : Row α) : AV → Option (List α)
  | .lst true sz rows => bif szOK sz r.sz rows then mapO r.dec rows else none
  | _ => none
theorem sub_lst_tight {sz k : Nat} {rows rows' : List (List AV)} (h : szOK sz k rows = true) (hs : SubR rows rows') : Sub (.lst true sz rows) (.lst true k rows') := by
  intro E v r
  obtain ⟨base, cap, h1, h2, _, h4, h5, h6⟩ := sub_lst_sz (t := true) h hs E v r
  obtain ⟨base', cap', h1', _, h3', _⟩ := r
  have e := h1.symm.trans h1'
  simp only [Value.slice.injEq] at e
  obtain ⟨rfl, _, rfl⟩ := e
  exact ⟨base, cap, h1, h2, fun _ => by rw [h3' rfl, hs.1], h4, h5, h6⟩
def tyLt {α : Type} (r : Row α) : Ty (List α) where
  enc xs := .lst true r.sz (mp r.enc xs)
  dec _ := dLt' r
  ok H n v xs h := by
    unfold dLt' at h
    split at h
    · rename_i sz rows
      cases hs : szOK sz r.sz rows with
      | false => rw [hs] at h; cases h
      | true =>
        rw [hs, cond_true] at h
        exact Co.sub (sub_lst_tight hs (mapO_rows h).1) (nbR_rows xs)
    · cases h
  nb _ xs := nbR_rows xs
theorem tyLt_f {α : Type} {r : Row α} : (∀ xs, (tyLt r).enc xs = .lst true r.sz (mp r.enc xs)) ∧ ∀ H v, (tyLt r).dec H v = dLt' r v := ⟨fun _ => rfl, fun _ _ => rfl⟩
theorem stepN_goto {R : Type} {M : Mach R} {p : List Nat} {k : List Kt} {σ : AState} {l : Nat} : stepN M p k σ (.goto l) = none := rfl
attribute [go_sem] entB vwN toImm num num1 num2 firstC immF_eq pcond_bind or_true idxA_set get_set stepN_goto scell_nbset encode_sb or_bind_some tyLt_f dLt' Bool.not_true Bool.not_false pcond_no not_nb and_false false_and and_true true_and
end Go.Abs
namespace Go.Abs

theorem sb_dtl (s : Str) : (sb s).data.toList = s := by simp [sb]
theorem args2 {E : Env} {x y : AV} {vs : Array Value} {u v : Value} (h : RepL E [x, y] vs.toList) (hx : ∀ w, Rep E x w → w = u) (hy : ∀ w, Rep E y w → w = v) : vs = #[u, v] := by
  obtain ⟨v0, us, hvs, r0, v1, us1, hus, r1, hnil⟩ := h
  have hus1 : us1 = [] := hnil
  have e0 := hx _ r0
  have e1 := hy _ r1
  subst hus1 hus e0 e1
  cases vs; simp_all
theorem idxA_s5 {a b c d e : Str} {k : Int} : idxA [[AV.str (sb a)], [AV.str (sb b)], [AV.str (sb c)], [AV.str (sb d)], [AV.str (sb e)]] k = Option.map scell (idxA [a, b, c, d, e] k) := by
  have := idxA_mp (f := scell) (xs := [a, b, c, d, e]) (n := k)
  rw [mp_eq] at this
  exact this
def byteI (c : Int) : UInt8 := c.toNat.toUInt8
theorem fnC_indexByte {P : Program} {f : FuncId} (he : enters P f = true)
    (h : ∀ (s : ByteArray) (c : Int) (w : World), Calls P f #[.string s, .int .u8 c] w fun e w' => e = .returned (.int .i64 (Lib.indexByte s.data.toList c.toNat.toUInt8)) ∧ w' = w)
    (s : Str) (c : Int) : FnC P f [tyS.enc s, (tyI .u8).enc c] (fun v => v = (tyI .i64).enc (Lib.indexByte s (byteI c))) := by
  refine ⟨he, ⟨tyS.nb 0 _, (tyI .u8).nb 0 _, trivial⟩, fun C φ w hP hw hN0 hM vs hr => ?_⟩
  obtain rfl := args2 hr (u := .string (sb s)) (v := .int .u8 c) (fun _ h => h) (fun _ h => h)
  have := h (sb s) c w
  rw [sb_dtl] at this
  refine this.mono ?_
  rintro e w' ⟨rfl, rfl⟩
  exact ⟨_, _, φ, rfl, rfl, rfl, Nat.le_refl _, fun _ _ => rfl, fun _ _ => rfl, rfl, rfl⟩
theorem fnC_contains {P : Program} {f : FuncId} {g : Nat} (he : enters P f = true) (hk : kdom g 0) (hkv : ∀ v, kval g 0 v → ∃ m, v = .int .i64 m)
    (h : ∀ (s sub : ByteArray) (m : Int) (w : World), s.size < 4294967281 → w.cell? ⟨g, 0, none⟩ = some (.int .i64 m) → Calls P f #[.string s, .string sub] w fun e w' => e = .returned (.bool (Lib.contains s.data.toList sub.data.toList)) ∧ w' = w)
    (s sub : Str) (hs : s.length < 4294967281) : FnC P f [tyS.enc s, tyS.enc sub] (fun v => v = tyB.enc (Lib.contains s sub)) := by
  refine ⟨he, ⟨tyS.nb 0 _, tyS.nb 0 _, trivial⟩, fun C φ w hP hw hN0 hM vs hr => ?_⟩
  obtain rfl := args2 hr (u := .string (sb s)) (v := .string (sb sub)) (fun _ h => h) (fun _ h => h)
  obtain ⟨v, hv, hkval, _⟩ := C.hk g 0 hk
  obtain ⟨m, rfl⟩ := hkv v hkval
  rw [hw] at hv
  have := h (sb s) (sb sub) m w (by rw [sb_size]; exact hs) hv
  rw [sb_dtl, sb_dtl] at this
  refine this.mono ?_
  rintro e w' ⟨rfl, rfl⟩
  exact ⟨_, _, φ, rfl, rfl, rfl, Nat.le_refl _, fun _ _ => rfl, fun _ _ => rfl, rfl, rfl⟩
theorem fnC_cut {P : Program} {f : FuncId} {g : Nat} (he : enters P f = true) (hk : kdom g 0) (hkv : ∀ v, kval g 0 v → ∃ m, v = .int .i64 m)
    (h : ∀ (s sep : ByteArray) (m : Int) (w : World), s.size < 4294967281 → w.cell? ⟨g, 0, none⟩ = some (.int .i64 m) →
      Calls P f #[.string s, .string sep] w fun e w' => e = .returned (.tuple #[.string ⟨(Lib.cut s.data.toList sep.data.toList).1.toArray⟩, .string ⟨(Lib.cut s.data.toList sep.data.toList).2.1.toArray⟩, .bool (Lib.cut s.data.toList sep.data.toList).2.2]) ∧ ∃ n, w' = w.drewN n)
    (s sep : Str) (hs : s.length < 4294967281) : FnC P f [tyS.enc s, tyS.enc sep] (fun v => v = (ty3 tyS tyS tyB).enc (Lib.cut s sep)) := by
  refine ⟨he, ⟨tyS.nb 0 _, tyS.nb 0 _, trivial⟩, fun C φ w hP hw hN0 hM vs hr => ?_⟩
  obtain rfl := args2 hr (u := .string (sb s)) (v := .string (sb sep)) (fun _ h => h) (fun _ h => h)
  obtain ⟨v, hv, hkval, _⟩ := C.hk g 0 hk
  obtain ⟨m, rfl⟩ := hkv v hkval
  rw [hw] at hv
  have := h (sb s) (sb sep) m w (by rw [sb_size]; exact hs) hv
  rw [sb_dtl, sb_dtl] at this
  refine this.mono ?_
  rintro e w' ⟨rfl, n, rfl⟩
  exact ⟨_, _, φ, rfl, rfl, ⟨_, rfl, _, _, rfl, rfl, _, _, rfl, rfl, _, _, rfl, rfl, rfl⟩, Nat.le_refl _, fun _ _ => rfl, fun _ _ => rfl, rfl, rfl⟩
theorem fnC_indexAny {P : Program} {f : FuncId} {t : TypeId} (he : enters P f = true)
    (h : ∀ (s chars : ByteArray) (w : World), 2 ≤ chars.size → 8 < s.size → s.size < 4294967281 → chars.size < 4294967281 → (∀ (j : Nat) b, chars.data.toList[j]? = some b → b.toNat < 128) →
      Calls P f #[.string s, .string chars] w fun e w' => e = .returned (.int .i64 (Lib.indexAny s.data.toList chars.data.toList)) ∧ ∃ c d, w' = (w.alloc (.cells c t)).alloc (.cells d t))
    (s chars : Str) (h2 : 2 ≤ chars.length) (h8 : 8 < s.length) (hs : s.length < 4294967281) (hc : chars.length < 4294967281) (ha : ∀ b ∈ chars, b.toNat < 128) :
    FnC P f [tyS.enc s, tyS.enc chars] (fun v => v = (tyI .i64).enc (Lib.indexAny s chars)) := by
  refine ⟨he, ⟨tyS.nb 0 _, tyS.nb 0 _, trivial⟩, fun C φ w hP hw hN0 hM vs hr => ?_⟩
  obtain rfl := args2 hr (u := .string (sb s)) (v := .string (sb chars)) (fun _ h => h) (fun _ h => h)
  have hz : ∀ x : Str, (sb x).size = x.length := sb_size
  have := h (sb s) (sb chars) w (by rw [hz]; exact h2) (by rw [hz]; exact h8) (by rw [hz]; exact hs) (by rw [hz]; exact hc) (fun j b hb => ha b (by rw [sb_dtl] at hb; exact List.mem_of_getElem? hb))
  rw [sb_dtl, sb_dtl] at this
  refine this.mono ?_
  rintro e w' ⟨rfl, c, d, rfl⟩
  have hnew : ∀ (w : World) (o : Obj), w.alloc o = World.more w o := fun _ _ => rfl
  simp only [hnew]
  have ho : ∀ (c : Array Value) c' t' lo hi, Obj.cells c t = .cells c' t' (lo, hi) → lo = 0 ∧ hi = 0 := by intro c c' t' lo hi h; cases h; exact ⟨rfl, rfl⟩
  refine ⟨_, _, φ, rfl, rfl, rfl, by simp only [more_size]; omega, fun b hb => ?_, fun x hx => ?_, rfl, rfl⟩
  · rw [more_old _ _ (by simp; omega), more_old _ _ hb]
  · rw [more_frozen _ _ (ho d), more_frozen _ _ (ho c)]
end Go.Abs
