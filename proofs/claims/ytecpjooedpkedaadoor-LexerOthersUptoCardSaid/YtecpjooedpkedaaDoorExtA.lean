/- A part of the proof: functions of the library. -/
import Derived.Shelf.Strings.Search1
import Derived.Shelf.Strings.Search3
import Derived.Shelf.Strings.Cut
import Derived.Shelf.Strings.IndexAnyAll
import Derived.Test.YtecpjooedpkedaaDoorProg
import Derived.Test.YtecpjooedpkedaaDoorCoreC
import Derived.KernelRfl
set_option linter.all false
namespace Go.Proofs
open Go.Shelf
def Tryd.lays217_ren : Go.Shelf.Ren := ⟨fun | 217 => 66 | 266 => 70 | n => n, fun | 9 => 9 | 5 => 5 | 3 => 3 | n => n, fun | n => n⟩
theorem Tryd.lays217 : Go.Proofs.Lays.n217 Tryd.prog Tryd.lays217_ren := {
  mixed := by kernel_rfl
  f217 := Tryd.func66.trans (congrArg some (by kernel_rfl))
  f266 := Tryd.func70.trans (congrArg some (by kernel_rfl))
  t3 := Tryd.underlying3
  a3 := Tryd.isAgg3
  z3 := Tryd.sizeOf3
  v3 := Tryd.zeroValue3
  t5 := Tryd.underlying5
  a5 := Tryd.isAgg5
  z5 := Tryd.sizeOf5
  v5 := Tryd.zeroValue5
  t9 := Tryd.underlying9
  a9 := Tryd.isAgg9
  z9 := Tryd.sizeOf9
  v9 := Tryd.zeroValue9 }
open Go.RowKit Go.Lib in
theorem Tryd.stringslite_IndexByte (s : ByteArray) (c : Int) (w : World) :
    Calls Tryd.prog 66 #[.string s, .int .u8 c] w fun e w' => e = .returned (.int .i64 (Lib.indexByte s.data.toList c.toNat.toUInt8)) ∧ w' = w := Any.stringslite_IndexByte Tryd.lays217 s c w
def Tryd.lays144_ren : Go.Shelf.Ren := ⟨fun | 144 => 32 | 143 => 47 | 219 => 59 | 217 => 66 | 225 => 65 | 224 => 64 | 267 => 67 | 266 => 70 | 314 => 71 | n => n, fun | 9 => 9 | 4 => 4 | 3 => 3 | 5 => 5 | 46 => 84 | 146 => 100 | 51 => 76 | n => n, fun | 1 => 2 | n => n⟩
theorem Tryd.lays144 : Go.Proofs.Lays.n144 Tryd.prog Tryd.lays144_ren := {
  mixed := by kernel_rfl
  f143 := Tryd.func47.trans (congrArg some (by kernel_rfl))
  f144 := Tryd.func32.trans (congrArg some (by kernel_rfl))
  f217 := Tryd.func66.trans (congrArg some (by kernel_rfl))
  f219 := Tryd.func59.trans (congrArg some (by kernel_rfl))
  f224 := Tryd.func64.trans (congrArg some (by kernel_rfl))
  f225 := Tryd.func65.trans (congrArg some (by kernel_rfl))
  f266 := Tryd.func70.trans (congrArg some (by kernel_rfl))
  f267 := Tryd.func67.trans (congrArg some (by kernel_rfl))
  f314 := Tryd.func71.trans (congrArg some (by kernel_rfl))
  t3 := Tryd.underlying3
  a3 := Tryd.isAgg3
  z3 := Tryd.sizeOf3
  v3 := Tryd.zeroValue3
  t4 := Tryd.underlying4
  a4 := Tryd.isAgg4
  z4 := Tryd.sizeOf4
  v4 := Tryd.zeroValue4
  t5 := Tryd.underlying5
  a5 := Tryd.isAgg5
  z5 := Tryd.sizeOf5
  v5 := Tryd.zeroValue5
  t9 := Tryd.underlying9
  a9 := Tryd.isAgg9
  z9 := Tryd.sizeOf9
  v9 := Tryd.zeroValue9
  t46 := Tryd.underlying84
  a46 := Tryd.isAgg84
  z46 := Tryd.sizeOf84
  v46 := Tryd.zeroValue84
  t51 := Tryd.underlying76
  a51 := Tryd.isAgg76
  z51 := Tryd.sizeOf76
  v51 := Tryd.zeroValue76
  t146 := Tryd.underlying100
  a146 := Tryd.isAgg100
  z146 := Tryd.sizeOf100
  v146 := Tryd.zeroValue100
  g1 := by kernel_rfl }
open Go.RowKit Go.Lib in
theorem Tryd.strings_Contains (s sub : ByteArray) (m : Int) (w : World) (hs : s.size < 4294967281) (hm : w.cell? ⟨2, 0, none⟩ = some (.int .i64 m)) :
    Calls Tryd.prog 32 #[.string s, .string sub] w fun e w' => e = .returned (.bool (Lib.contains s.data.toList sub.data.toList)) ∧ w' = w := Any.strings_Contains Tryd.lays144 s sub m w hs hm
def Tryd.lays145_ren : Go.Shelf.Ren := ⟨fun | 145 => 42 | 220 => 58 | 219 => 59 | 217 => 66 | 225 => 65 | 224 => 64 | 267 => 67 | 266 => 70 | 314 => 71 | n => n, fun | 9 => 9 | 4 => 4 | 59 => 61 | 3 => 3 | 5 => 5 | 46 => 84 | 146 => 100 | 51 => 76 | n => n, fun | 1 => 2 | n => n⟩
theorem Tryd.lays145 : Go.Proofs.Lays.n145 Tryd.prog Tryd.lays145_ren := {
  mixed := by kernel_rfl
  f145 := Tryd.func42.trans (congrArg some (by kernel_rfl))
  f217 := Tryd.func66.trans (congrArg some (by kernel_rfl))
  f219 := Tryd.func59.trans (congrArg some (by kernel_rfl))
  f220 := Tryd.func58.trans (congrArg some (by kernel_rfl))
  f224 := Tryd.func64.trans (congrArg some (by kernel_rfl))
  f225 := Tryd.func65.trans (congrArg some (by kernel_rfl))
  f266 := Tryd.func70.trans (congrArg some (by kernel_rfl))
  f267 := Tryd.func67.trans (congrArg some (by kernel_rfl))
  f314 := Tryd.func71.trans (congrArg some (by kernel_rfl))
  t3 := Tryd.underlying3
  a3 := Tryd.isAgg3
  z3 := Tryd.sizeOf3
  v3 := Tryd.zeroValue3
  t4 := Tryd.underlying4
  a4 := Tryd.isAgg4
  z4 := Tryd.sizeOf4
  v4 := Tryd.zeroValue4
  t5 := Tryd.underlying5
  a5 := Tryd.isAgg5
  z5 := Tryd.sizeOf5
  v5 := Tryd.zeroValue5
  t9 := Tryd.underlying9
  a9 := Tryd.isAgg9
  z9 := Tryd.sizeOf9
  v9 := Tryd.zeroValue9
  t46 := Tryd.underlying84
  a46 := Tryd.isAgg84
  z46 := Tryd.sizeOf84
  v46 := Tryd.zeroValue84
  t51 := Tryd.underlying76
  a51 := Tryd.isAgg76
  z51 := Tryd.sizeOf76
  v51 := Tryd.zeroValue76
  t59 := Tryd.underlying61
  a59 := Tryd.isAgg61
  z59 := Tryd.sizeOf61
  v59 := Tryd.zeroValue61
  t146 := Tryd.underlying100
  a146 := Tryd.isAgg100
  z146 := Tryd.sizeOf100
  v146 := Tryd.zeroValue100
  g1 := by kernel_rfl }
open Go.RowKit Go.Lib in
theorem Tryd.strings_Cut (s sep : ByteArray) (m : Int) (w : World) (hs : s.size < 4294967281) (hm : w.cell? ⟨2, 0, none⟩ = some (.int .i64 m)) :
    Calls Tryd.prog 42 #[.string s, .string sep] w fun e w' => e = .returned (.tuple #[.string ⟨(Lib.cut s.data.toList sep.data.toList).1.toArray⟩, .string ⟨(Lib.cut s.data.toList sep.data.toList).2.1.toArray⟩, .bool (Lib.cut s.data.toList sep.data.toList).2.2]) ∧ ∃ n, w' = w.drewN n := Any.strings_Cut Tryd.lays145 s sep m w hs hm
def Tryd.lays153_ren : Go.Shelf.Ren := ⟨fun | 153 => 39 | 152 => 53 | 226 => 54 | 227 => 55 | 228 => 56 | 137 => 62 | 119 => 63 | 224 => 64 | 225 => 65 | 217 => 66 | 266 => 70 | n => n, fun | 9 => 9 | 3 => 3 | 4 => 4 | 5 => 5 | 21 => 21 | 117 => 74 | 116 => 73 | 0 => 0 | 46 => 84 | 124 => 85 | n => n, fun | n => n⟩
theorem Tryd.lays153 : Go.Proofs.Lays.n153 Tryd.prog Tryd.lays153_ren := {
  mixed := by kernel_rfl
  f119 := Tryd.func63.trans (congrArg some (by kernel_rfl))
  f137 := Tryd.func62.trans (congrArg some (by kernel_rfl))
  f152 := Tryd.func53.trans (congrArg some (by kernel_rfl))
  f153 := Tryd.func39.trans (congrArg some (by kernel_rfl))
  f217 := Tryd.func66.trans (congrArg some (by kernel_rfl))
  f224 := Tryd.func64.trans (congrArg some (by kernel_rfl))
  f225 := Tryd.func65.trans (congrArg some (by kernel_rfl))
  f226 := Tryd.func54.trans (congrArg some (by kernel_rfl))
  f227 := Tryd.func55.trans (congrArg some (by kernel_rfl))
  f228 := Tryd.func56.trans (congrArg some (by kernel_rfl))
  f266 := Tryd.func70.trans (congrArg some (by kernel_rfl))
  t0 := Tryd.underlying0
  a0 := Tryd.isAgg0
  z0 := Tryd.sizeOf0
  v0 := Tryd.zeroValue0
  t3 := Tryd.underlying3
  a3 := Tryd.isAgg3
  z3 := Tryd.sizeOf3
  v3 := Tryd.zeroValue3
  t4 := Tryd.underlying4
  a4 := Tryd.isAgg4
  z4 := Tryd.sizeOf4
  v4 := Tryd.zeroValue4
  t5 := Tryd.underlying5
  a5 := Tryd.isAgg5
  z5 := Tryd.sizeOf5
  v5 := Tryd.zeroValue5
  t9 := Tryd.underlying9
  a9 := Tryd.isAgg9
  z9 := Tryd.sizeOf9
  v9 := Tryd.zeroValue9
  t21 := Tryd.underlying21
  a21 := Tryd.isAgg21
  z21 := Tryd.sizeOf21
  v21 := Tryd.zeroValue21
  t46 := Tryd.underlying84
  a46 := Tryd.isAgg84
  z46 := Tryd.sizeOf84
  v46 := Tryd.zeroValue84
  t116 := Tryd.underlying73
  a116 := Tryd.isAgg73
  z116 := Tryd.sizeOf73
  t117 := Tryd.underlying74
  a117 := Tryd.isAgg74
  z117 := Tryd.sizeOf74
  v117 := Tryd.zeroValue74
  t124 := Tryd.underlying85
  a124 := Tryd.isAgg85
  z124 := Tryd.sizeOf85
  v124 := Tryd.zeroValue85 }
open Go.RowKit Go.Lib in
theorem Tryd.strings_IndexAny_long (hv116 : ∀ w, (zeroValue 73).run Tryd.prog w = .ok (.agg (Array.replicate 256 (.bool false))) w) (s chars : ByteArray) (w : World) (h2 : 2 ≤ chars.size) (h8 : 8 < s.size) (hs : s.size < 4294967281) (hcs : chars.size < 4294967281) (hascii : ∀ (j : Nat) b, chars.data.toList[j]? = some b → b.toNat < 128) :
    Calls Tryd.prog 39 #[.string s, .string chars] w fun e w' => e = .returned (.int .i64 (Lib.indexAny s.data.toList chars.data.toList)) ∧ w' = ((w.alloc (.cells (Lib.setCells chars.data.toList) 73)).alloc (.cells (Lib.setCells chars.data.toList) 73)) := Any.strings_IndexAny_long Tryd.lays153 hv116 (by kernel_rfl) s chars w h2 h8 hs hcs hascii
end Go.Proofs
namespace Go.Abs
open Go.Proofs
def internal_stringslite_IndexByte : Nat → Str → Int → Option Int
  | 0, _, _ => none
  | _ + 1, a0, a1 => some (Lib.indexByte a0 (byteI a1))
theorem internal_stringslite_IndexByte_ok : ∀ (n : Nat) (a0 : Str) (a1 : Int) (r : Int), internal_stringslite_IndexByte n a0 a1 = some r → FnC Tryd.prog 66 [tyS.enc a0, (tyI .u8).enc a1] (fun v => v = (tyI .i64).enc r)
  | 0, _, _, _, h => by cases h
  | _ + 1, a0, a1, r, h => by
    cases h
    exact fnC_indexByte (by kernel_rfl) (fun s c w => Tryd.stringslite_IndexByte s c w) a0 a1
def strings_Contains : Nat → Str → Str → Option Bool
  | 0, _, _ => none
  | _ + 1, a0, a1 => bif decide (a0.length < 4294967281) then some (Lib.contains a0 a1) else none
theorem strings_Contains_ok : ∀ (n : Nat) (a0 a1 : Str) (r : Bool), strings_Contains n a0 a1 = some r → FnC Tryd.prog 32 [tyS.enc a0, tyS.enc a1] (fun v => v = tyB.enc r)
  | 0, _, _, _, h => by cases h
  | _ + 1, a0, a1, r, h => by
    simp only [strings_Contains] at h
    cases h1 : decide (a0.length < 4294967281) with
    | false => rw [h1] at h; cases h
    | true =>
      rw [h1, cond_true, Option.some.injEq] at h
      subst h
      exact fnC_contains (g := 2) (by kernel_rfl) (.inl ⟨rfl, rfl⟩) (fun _ h => h.1 rfl) (fun s sep m w a b => Tryd.strings_Contains s sep m w a b) a0 a1 (of_decide_eq_true h1)
def strings_Cut : Nat → Str → Str → Option (Str × Str × Bool)
  | 0, _, _ => none
  | _ + 1, a0, a1 => bif decide (a0.length < 4294967281) then some (Lib.cut a0 a1) else none
theorem strings_Cut_ok : ∀ (n : Nat) (a0 a1 : Str) (r : (Str × Str × Bool)), strings_Cut n a0 a1 = some r → FnC Tryd.prog 42 [tyS.enc a0, tyS.enc a1] (fun v => v = (ty3 tyS tyS tyB).enc r)
  | 0, _, _, _, h => by cases h
  | _ + 1, a0, a1, r, h => by
    simp only [strings_Cut] at h
    cases h1 : decide (a0.length < 4294967281) with
    | false => rw [h1] at h; cases h
    | true =>
      rw [h1, cond_true, Option.some.injEq] at h
      subst h
      exact fnC_cut (g := 2) (by kernel_rfl) (.inl ⟨rfl, rfl⟩) (fun _ h => h.1 rfl) (fun s sep m w a b => Tryd.strings_Cut s sep m w a b) a0 a1 (of_decide_eq_true h1)
def strings_IndexAnyL : Nat → Str → Str → Option Int
  | 0, _, _ => none
  | _ + 1, a0, a1 => bif decide (2 ≤ a1.length) && (decide (8 < a0.length) && (decide (a0.length < 4294967281) && (decide (a1.length < 4294967281) && a1.all (fun b => decide (b.toNat < 128))))) then some (Lib.indexAny a0 a1) else none
theorem strings_IndexAnyL_ok : ∀ (n : Nat) (a0 a1 : Str) (r : Int), strings_IndexAnyL n a0 a1 = some r → FnC Tryd.prog 39 [tyS.enc a0, tyS.enc a1] (fun v => v = (tyI .i64).enc r)
  | 0, _, _, _, h => by cases h
  | _ + 1, a0, a1, r, h => by
    simp only [strings_IndexAnyL] at h
    cases h1 : decide (2 ≤ a1.length) && (decide (8 < a0.length) && (decide (a0.length < 4294967281) && (decide (a1.length < 4294967281) && a1.all (fun b => decide (b.toNat < 128))))) with
    | false => rw [h1] at h; cases h
    | true =>
      rw [h1, cond_true, Option.some.injEq] at h
      subst h
      simp only [Bool.and_eq_true, decide_eq_true_eq, List.all_eq_true] at h1
      obtain ⟨h2, h8, h3, h4, h5⟩ := h1
      exact fnC_indexAny (t := 73) (by kernel_rfl) (fun s c w a b c' d e => (Tryd.strings_IndexAny_long (fun w => by kernel_rfl) s c w a b c' d e).mono (fun _ _ h => ⟨h.1, _, _, h.2⟩)) a0 a1 h2 h8 h3 h4 h5
end Go.Abs
