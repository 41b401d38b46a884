/- A part of the proof: functions of the library. -/
import Derived.Shelf.SlicesG.Clone
import Derived.Shelf.Strings.OnBuilder
import Derived.Shelf.Strings.Split
import Derived.Shelf.LaysM
import Derived.Test.YtplbjppbollcjaaDoorProg
import Derived.Test.YtplbjppbollcjaaDoorCoreC
import Derived.KernelRfl
set_option linter.all false
namespace Go.Proofs
open Go.Shelf
set_option maxRecDepth 100000
def Tryd.lays156_ren : Go.Shelf.Ren := ⟨fun | 156 => 20 | 165 => 49 | 166 => 50 | 169 => 51 | 240 => 69 | 241 => 70 | 276 => 76 | 277 => 77 | n => n, fun | 31 => 24 | 9 => 9 | 3 => 3 | 4 => 4 | 0 => 0 | 20 => 20 | 72 => 84 | 76 => 88 | 70 => 81 | 37 => 82 | 75 => 87 | 127 => 100 | 164 => 105 | 5 => 5 | 80 => 90 | n => n, fun | n => n⟩
theorem Tryd.lays156 : Go.Proofs.Lays.n156 Tryd.prog Tryd.lays156_ren := {
  mixed := by kernel_rfl
  f156 := Tryd.func20.trans (congrArg some (by kernel_rfl))
  f165 := Tryd.func49.trans (congrArg some (by kernel_rfl))
  f166 := Tryd.func50.trans (congrArg some (by kernel_rfl))
  f169 := Tryd.func51.trans (congrArg some (by kernel_rfl))
  f240 := Tryd.func69.trans (congrArg some (by kernel_rfl))
  f241 := Tryd.func70.trans (congrArg some (by kernel_rfl))
  f276 := Tryd.func76.trans (congrArg some (by kernel_rfl))
  f277 := Tryd.func77.trans (congrArg some (by kernel_rfl))
  t0 := Tryd.underlying0
  a0 := Tryd.isAgg0
  z0 := Tryd.sizeOf0
  v0 := Tryd.zeroValue0
  t3 := Tryd.underlying3
  a3 := Tryd.isAgg3
  z3 := Tryd.sizeOf3
  v3 := Tryd.zeroValue3
  t4 := Tryd.underlying4
  a4 := Tryd.isAgg4
  z4 := Tryd.sizeOf4
  v4 := Tryd.zeroValue4
  t9 := Tryd.underlying9
  a9 := Tryd.isAgg9
  z9 := Tryd.sizeOf9
  v9 := Tryd.zeroValue9
  t20 := Tryd.underlying20
  a20 := Tryd.isAgg20
  z20 := Tryd.sizeOf20
  v20 := Tryd.zeroValue20
  t31 := Tryd.underlying24
  a31 := Tryd.isAgg24
  z31 := Tryd.sizeOf24
  v31 := Tryd.zeroValue24
  t37 := Tryd.underlying82
  a37 := Tryd.isAgg82
  z37 := Tryd.sizeOf82
  v37 := Tryd.zeroValue82
  t70 := Tryd.underlying81
  a70 := Tryd.isAgg81
  z70 := Tryd.sizeOf81
  v70 := Tryd.zeroValue81
  t72 := Tryd.underlying84
  a72 := Tryd.isAgg84
  z72 := Tryd.sizeOf84
  v72 := Tryd.zeroValue84
  t75 := Tryd.underlying87
  a75 := Tryd.isAgg87
  z75 := Tryd.sizeOf87
  v75 := Tryd.zeroValue87
  t76 := Tryd.underlying88
  a76 := Tryd.isAgg88
  z76 := Tryd.sizeOf88
  v76 := Tryd.zeroValue88
  t127 := Tryd.underlying100
  a127 := Tryd.isAgg100
  z127 := Tryd.sizeOf100
  v127 := Tryd.zeroValue100
  t164 := Tryd.underlying105
  a164 := Tryd.isAgg105
  z164 := Tryd.sizeOf105
  v164 := Tryd.zeroValue105 }
theorem Tryd.Builder_Extra_156 : Builder.Extra Tryd.prog Tryd.lays156_ren := {
  sizeBuilder := by kernel_rfl
  liesBuilder := by kernel_rfl
  t5 := Tryd.underlying5
  a5 := Tryd.isAgg5
  z5 := Tryd.sizeOf5
  v5 := Tryd.zeroValue5
  infoByte := by kernel_rfl
  cellsByte := by kernel_rfl
  sizeByte := by kernel_rfl
  neB5 := by decide }
open Go.RowKit in
theorem Tryd.strings_Join_none (a : Option Addr) (c : Nat) (sep : ByteArray) (w : World) :
    Calls Tryd.prog 20 #[.slice a 0 c, .string sep] w fun e w' => e = .returned (.string ⟨#[]⟩) ∧ w' = w := Any.strings_Join_none Tryd.lays156 Tryd.Builder_Extra_156 a c sep w
open Go.RowKit in
theorem Tryd.strings_Join (bk o c : Nat) (xs : List ByteArray) (sep : ByteArray) (w : World) (hcells : ∀ (j : Nat) x, xs[j]? = some x → w.cell? ⟨bk, o + j, none⟩ = some (.string x)) (hbk : bk < w.heap.size) (hN : xs.length ≤ 140737488355328) (hcap : xs.length ≤ c) (hlen : (Lib.join (xs.map (·.data.toList)) sep.data.toList).length ≤ 140737488355328) :
    Calls Tryd.prog 20 #[.slice (some ⟨bk, o, none⟩) xs.length c, .string sep] w fun e w' => e = .returned (.string ⟨(Lib.join (xs.map (·.data.toList)) sep.data.toList).toArray⟩) ∧ Below w.heap.size w w' := Any.strings_Join Tryd.lays156 Tryd.Builder_Extra_156 bk o c xs sep w hcells hbk hN hcap hlen
def Tryd.lays146_ren : Go.Shelf.Ren := ⟨fun | 146 => 19 | 221 => 48 | 268 => 66 | 138 => 67 | 143 => 68 | 195 => 72 | 197 => 73 | 218 => 74 | 219 => 75 | 260 => 78 | 217 => 79 | 225 => 80 | 224 => 81 | 267 => 82 | 266 => 83 | 314 => 84 | n => n, fun | 9 => 9 | 31 => 24 | 3 => 3 | 4 => 4 | 0 => 0 | 105 => 102 | 21 => 21 | 5 => 5 | 46 => 109 | 119 => 110 | 139 => 113 | 138 => 112 | 146 => 115 | 51 => 114 | n => n, fun | 1 => 0 | 3 => 1 | 4 => 2 | n => n⟩
theorem Tryd.lays146 : Go.Proofs.Lays.n146 Tryd.prog Tryd.lays146_ren := {
  mixed := by kernel_rfl
  f138 := Tryd.func67.trans (congrArg some (by kernel_rfl))
  f143 := Tryd.func68.trans (congrArg some (by kernel_rfl))
  f146 := Tryd.func19.trans (congrArg some (by kernel_rfl))
  f195 := Tryd.func72.trans (congrArg some (by kernel_rfl))
  f197 := Tryd.func73.trans (congrArg some (by kernel_rfl))
  f217 := Tryd.func79.trans (congrArg some (by kernel_rfl))
  f218 := Tryd.func74.trans (congrArg some (by kernel_rfl))
  f219 := Tryd.func75.trans (congrArg some (by kernel_rfl))
  f221 := Tryd.func48.trans (congrArg some (by kernel_rfl))
  f224 := Tryd.func81.trans (congrArg some (by kernel_rfl))
  f225 := Tryd.func80.trans (congrArg some (by kernel_rfl))
  f260 := Tryd.func78.trans (congrArg some (by kernel_rfl))
  f266 := Tryd.func83.trans (congrArg some (by kernel_rfl))
  f267 := Tryd.func82.trans (congrArg some (by kernel_rfl))
  f268 := Tryd.func66.trans (congrArg some (by kernel_rfl))
  f314 := Tryd.func84.trans (congrArg some (by kernel_rfl))
  t0 := Tryd.underlying0
  a0 := Tryd.isAgg0
  z0 := Tryd.sizeOf0
  v0 := Tryd.zeroValue0
  t3 := Tryd.underlying3
  a3 := Tryd.isAgg3
  z3 := Tryd.sizeOf3
  v3 := Tryd.zeroValue3
  t4 := Tryd.underlying4
  a4 := Tryd.isAgg4
  z4 := Tryd.sizeOf4
  v4 := Tryd.zeroValue4
  t5 := Tryd.underlying5
  a5 := Tryd.isAgg5
  z5 := Tryd.sizeOf5
  v5 := Tryd.zeroValue5
  t9 := Tryd.underlying9
  a9 := Tryd.isAgg9
  z9 := Tryd.sizeOf9
  v9 := Tryd.zeroValue9
  t21 := Tryd.underlying21
  a21 := Tryd.isAgg21
  z21 := Tryd.sizeOf21
  v21 := Tryd.zeroValue21
  t31 := Tryd.underlying24
  a31 := Tryd.isAgg24
  z31 := Tryd.sizeOf24
  v31 := Tryd.zeroValue24
  t46 := Tryd.underlying109
  a46 := Tryd.isAgg109
  z46 := Tryd.sizeOf109
  v46 := Tryd.zeroValue109
  t51 := Tryd.underlying114
  a51 := Tryd.isAgg114
  z51 := Tryd.sizeOf114
  v51 := Tryd.zeroValue114
  t105 := Tryd.underlying102
  a105 := Tryd.isAgg102
  z105 := Tryd.sizeOf102
  v105 := Tryd.zeroValue102
  t119 := Tryd.underlying110
  a119 := Tryd.isAgg110
  z119 := Tryd.sizeOf110
  t138 := Tryd.underlying112
  a138 := Tryd.isAgg112
  z138 := Tryd.sizeOf112
  v138 := Tryd.zeroValue112
  t139 := Tryd.underlying113
  a139 := Tryd.isAgg113
  z139 := Tryd.sizeOf113
  v139 := Tryd.zeroValue113
  t146 := Tryd.underlying115
  a146 := Tryd.isAgg115
  z146 := Tryd.sizeOf115
  v146 := Tryd.zeroValue115
  g1 := by kernel_rfl
  g3 := by kernel_rfl
  g4 := by kernel_rfl }
open Go.RowKit Go.Lib in
theorem Tryd.strings_Split (s sep : ByteArray) (m : Int) (w : World) (hs : s.size < 4294967281) (hm : w.cell? ⟨0, 0, none⟩ = some (.int .i64 m)) (h1 : 1 ≤ sep.size) :
    Calls Tryd.prog 19 #[.string s, .string sep] w fun e w' =>
      e = .returned (.slice (some ⟨w.heap.size, 0, none⟩) (Lib.countB s sep + 1) (Lib.countB s sep + 1)) ∧ w' = w.alloc (.cells ((Lib.splitB sep 0 (Lib.countB s sep) s).map Value.string).toArray 9) := Any.strings_Split Tryd.lays146 (by kernel_rfl) s sep m w hs hm h1
def Tryd.laysG42_f21_ren : Go.Shelf.Ren := ⟨fun | 42 => 21 | n => n, fun | 25 => 24 | 26 => 9 | 4 => 4 | n => n, fun | n => n⟩
theorem Tryd.laysG42_f21 : Go.Proofs.SlLaysN.n42 Tryd.prog Tryd.laysG42_f21_ren := {
  mixed := by kernel_rfl
  f42 := ⟨Tryd.f21.name, by decide, Tryd.func21.trans (congrArg some (by kernel_rfl))⟩
  t4 := Tryd.underlying4
  a4 := Tryd.isAgg4
  z4 := Tryd.sizeOf4
  v4 := Tryd.zeroValue4
  t25 := Tryd.underlying24
  a25 := Tryd.isAgg24
  z25 := Tryd.sizeOf24
  v25 := Tryd.zeroValue24
  t26 := Tryd.underlying9
  a26 := Tryd.isAgg9
  z26 := Tryd.sizeOf9
  v26 := Tryd.zeroValue9
  i26 := by kernel_rfl }
open Go.RowKit Go.Lib in
theorem Tryd.clone21 (b off n c : Nat) (zs : List ByteArray) (w : World) (hz : n ≤ zs.length) (hbig : n * 16 ≤ 140737488355328) (hc : ∀ j, j < zs.length → w.cell? ⟨b, off + j, none⟩ = some (.string (zs.getD j ByteArray.empty))) :
    Calls Tryd.prog 21 #[.slice (some ⟨b, off, none⟩) n c] w fun e w' => ∃ v', e = .returned v' ∧ w'.ownsRow w.heap.size 9 1 v' n ((zs.take n).map (Value.string)) ∧ v' ≠ .slice none 0 0 ∧ Below w.heap.size w w' := AnyG.slices_Clone_string Tryd.laysG42_f21 b off n c zs w hz hbig hc
open Go.RowKit Go.Lib in
theorem Tryd.clone21_nil (n c : Nat) (w : World) :
    Calls Tryd.prog 21 #[.slice none n c] w fun e w' => e = .returned (.slice none 0 0) ∧ w' = w := AnyG.slices_Clone_string_nil Tryd.laysG42_f21 n c w
open Go.RowKit Go.Lib in
theorem Tryd.clone21_zero (a : Addr) (c : Nat) (w : World) :
    Calls Tryd.prog 21 #[.slice (some a) 0 c] w fun e w' => ∃ v', e = .returned v' ∧ w'.ownsRow w.heap.size 9 1 v' 0 [] ∧ v' ≠ .slice none 0 0 ∧ Below w.heap.size w w' := AnyG.slices_Clone_string_zero Tryd.laysG42_f21 a c w
def Tryd.laysG42_f63_ren : Go.Shelf.Ren := ⟨fun | 42 => 63 | n => n, fun | 25 => 72 | 26 => 9 | 4 => 4 | n => n, fun | n => n⟩
theorem Tryd.laysG42_f63 : Go.Proofs.SlLaysN.n42 Tryd.prog Tryd.laysG42_f63_ren := {
  mixed := by kernel_rfl
  f42 := ⟨Tryd.f63.name, by decide, Tryd.func63.trans (congrArg some (by kernel_rfl))⟩
  t4 := Tryd.underlying4
  a4 := Tryd.isAgg4
  z4 := Tryd.sizeOf4
  v4 := Tryd.zeroValue4
  t25 := Tryd.underlying72
  a25 := Tryd.isAgg72
  z25 := Tryd.sizeOf72
  v25 := Tryd.zeroValue72
  t26 := Tryd.underlying9
  a26 := Tryd.isAgg9
  z26 := Tryd.sizeOf9
  v26 := Tryd.zeroValue9
  i26 := by kernel_rfl }
open Go.RowKit Go.Lib in
theorem Tryd.clone63 (b off n c : Nat) (zs : List ByteArray) (w : World) (hz : n ≤ zs.length) (hbig : n * 16 ≤ 140737488355328) (hc : ∀ j, j < zs.length → w.cell? ⟨b, off + j, none⟩ = some (.string (zs.getD j ByteArray.empty))) :
    Calls Tryd.prog 63 #[.slice (some ⟨b, off, none⟩) n c] w fun e w' => ∃ v', e = .returned v' ∧ w'.ownsRow w.heap.size 9 1 v' n ((zs.take n).map (Value.string)) ∧ v' ≠ .slice none 0 0 ∧ Below w.heap.size w w' := AnyG.slices_Clone_string Tryd.laysG42_f63 b off n c zs w hz hbig hc
open Go.RowKit Go.Lib in
theorem Tryd.clone63_nil (n c : Nat) (w : World) :
    Calls Tryd.prog 63 #[.slice none n c] w fun e w' => e = .returned (.slice none 0 0) ∧ w' = w := AnyG.slices_Clone_string_nil Tryd.laysG42_f63 n c w
open Go.RowKit Go.Lib in
theorem Tryd.clone63_zero (a : Addr) (c : Nat) (w : World) :
    Calls Tryd.prog 63 #[.slice (some a) 0 c] w fun e w' => ∃ v', e = .returned v' ∧ w'.ownsRow w.heap.size 9 1 v' 0 [] ∧ v' ≠ .slice none 0 0 ∧ Below w.heap.size w w' := AnyG.slices_Clone_string_zero Tryd.laysG42_f63 a c w
end Go.Proofs
namespace Go.Abs
open Go.Proofs
def slices_Clone_string_2_h : Nat → List Str → Option ((List Str × Unit) × Unit)
  | 0, _ => none
  | _ + 1, a0 => bif decide (a0.length * 16 ≤ 140737488355328) then some ((a0, ()), ()) else none
theorem slices_Clone_string_2_h_ok : ∀ (n : Nat) (a0 : List Str) (r : ((List Str × Unit) × Unit)), slices_Clone_string_2_h n a0 = some r → FnG Tryd.prog 21 (((asT (tyL rowS) asN) : ASpec Unit _).enc () (a0, ())) (osN.enc ()) (fun o H' => o = .ret (tupOf ((rsA 0 (fun (b : ((List Str) × Unit)) => b.1.length) rsN).enc r.1 r.2)) ∧ H' = (osC (oaT true rowS) osN).enc r.1)
  | 0, _, _, h => by cases h
  | _ + 1, a0, r, h => by
    simp only [slices_Clone_string_2_h] at h
    cases h1 : decide (a0.length * 16 ≤ 140737488355328) with
    | false => rw [h1] at h; cases h
    | true =>
      rw [h1, cond_true, Option.some.injEq] at h
      subst h
      exact fnG_clone (by kernel_rfl) (fun n c w => Tryd.clone21_nil n c w) (fun b off n c zs w h1 h2 h3 => Tryd.clone21 b off n c zs w h1 h2 h3) (fun a c w => Tryd.clone21_zero a c w) a0 (of_decide_eq_true h1)
def slices_Clone_string_h : Nat → List Str → Option ((List Str × Unit) × Unit)
  | 0, _ => none
  | _ + 1, a0 => bif decide (a0.length * 16 ≤ 140737488355328) then some ((a0, ()), ()) else none
theorem slices_Clone_string_h_ok : ∀ (n : Nat) (a0 : List Str) (r : ((List Str × Unit) × Unit)), slices_Clone_string_h n a0 = some r → FnG Tryd.prog 63 (((asT (tyL rowS) asN) : ASpec Unit _).enc () (a0, ())) (osN.enc ()) (fun o H' => o = .ret (tupOf ((rsA 0 (fun (b : ((List Str) × Unit)) => b.1.length) rsN).enc r.1 r.2)) ∧ H' = (osC (oaT true rowS) osN).enc r.1)
  | 0, _, _, h => by cases h
  | _ + 1, a0, r, h => by
    simp only [slices_Clone_string_h] at h
    cases h1 : decide (a0.length * 16 ≤ 140737488355328) with
    | false => rw [h1] at h; cases h
    | true =>
      rw [h1, cond_true, Option.some.injEq] at h
      subst h
      exact fnG_clone (by kernel_rfl) (fun n c w => Tryd.clone63_nil n c w) (fun b off n c zs w h1 h2 h3 => Tryd.clone63 b off n c zs w h1 h2 h3) (fun a c w => Tryd.clone63_zero a c w) a0 (of_decide_eq_true h1)
def strings_Join : Nat → List Str → Str → Option Str
  | 0, _, _ => none
  | _ + 1, a0, a1 => bif decide ((Lib.join a0 a1).length ≤ 140737488355328) && decide (a0.length ≤ 140737488355328) then some (Lib.join a0 a1) else none
theorem strings_Join_ok : ∀ (n : Nat) (a0 : List Str) (a1 : Str) (r : Str), strings_Join n a0 a1 = some r → FnC Tryd.prog 20 [(tyL rowS).enc a0, tyS.enc a1] (fun v => v = tyS.enc r)
  | 0, _, _, _, h => by cases h
  | _ + 1, a0, a1, r, h => by
    simp only [strings_Join] at h
    cases h1 : decide ((Lib.join a0 a1).length ≤ 140737488355328) && decide (a0.length ≤ 140737488355328) with
    | false => rw [h1] at h; cases h
    | true =>
      rw [h1, cond_true, Option.some.injEq] at h
      subst h
      rw [Bool.and_eq_true, decide_eq_true_eq, decide_eq_true_eq] at h1
      exact fnC_join (by kernel_rfl) (fun a c sep w => Tryd.strings_Join_none a c sep w) (fun bk o c xs sep w a b d e f => Tryd.strings_Join bk o c xs sep w a b d e f) a0 a1 h1.1 h1.2
def strings_Split : Nat → Str → Str → Option (List Str)
  | 0, _, _ => none
  | _ + 1, a0, a1 => bif decide (a0.length < 4294967281) && decide (1 ≤ a1.length) then some (splitP a0 a1) else none
theorem strings_Split_ok : ∀ (n : Nat) (a0 a1 : Str) (r : List Str), strings_Split n a0 a1 = some r → FnC Tryd.prog 19 [tyS.enc a0, tyS.enc a1] (fun v => v = (tyL rowS).enc r)
  | 0, _, _, _, h => by cases h
  | _ + 1, a0, a1, r, h => by
    simp only [strings_Split] at h
    cases h1 : decide (a0.length < 4294967281) && decide (1 ≤ a1.length) with
    | false => rw [h1] at h; cases h
    | true =>
      rw [h1, cond_true, Option.some.injEq] at h
      subst h
      rw [Bool.and_eq_true, decide_eq_true_eq, decide_eq_true_eq] at h1
      exact fnC_split (t := 9) (g := 0) (by kernel_rfl) ⟨rfl, rfl⟩ (fun _ h => h) (fun s sep m w a b c => Tryd.strings_Split s sep m w a b c) a0 a1 h1.1 h1.2
end Go.Abs
