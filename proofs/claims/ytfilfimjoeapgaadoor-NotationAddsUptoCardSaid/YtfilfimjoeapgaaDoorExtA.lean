/- A part of the proof: functions of the library. -/
import Derived.Shelf.Strings.Search1
import Derived.Shelf.Strings.Search3
import Derived.Test.YtfilfimjoeapgaaDoorProg
import Derived.Test.YtfilfimjoeapgaaDoorCoreD
import Derived.KernelRfl
set_option linter.all false
namespace Go.Proofs
open Go.Shelf
set_option maxRecDepth 100000
def Tryd.Zw:Go.Shelf.Ren:=⟨fun|144=>69|143=>98|219=>109|217=>114|225=>115|224=>116|267=>117|266=>120|314=>121|n=>n,fun|9=>9|4=>4|3=>3|5=>5|46=>152|146=>159|51=>156|n=>n,fun|1=>1|n=>n⟩
theorem Tryd.lays144:Go.Proofs.Lays.n144 Tryd.prog Tryd.Zw:={
 mixed:=by kernel_rfl
 f143:=Tryd.func98.trans (congrArg some (by kernel_rfl))
 f144:=Tryd.func69.trans (congrArg some (by kernel_rfl))
 f217:=Tryd.func114.trans (congrArg some (by kernel_rfl))
 f219:=Tryd.func109.trans (congrArg some (by kernel_rfl))
 f224:=Tryd.func116.trans (congrArg some (by kernel_rfl))
 f225:=Tryd.func115.trans (congrArg some (by kernel_rfl))
 f266:=Tryd.func120.trans (congrArg some (by kernel_rfl))
 f267:=Tryd.func117.trans (congrArg some (by kernel_rfl))
 f314:=Tryd.func121.trans (congrArg some (by kernel_rfl))
 t3:=Tryd.underlying3
 a3:=Tryd.isAgg3
 z3:=Tryd.sizeOf3
 v3:=Tryd.zeroValue3
 t4:=Tryd.underlying4
 a4:=Tryd.isAgg4
 z4:=Tryd.sizeOf4
 v4:=Tryd.zeroValue4
 t5:=Tryd.underlying5
 a5:=Tryd.isAgg5
 z5:=Tryd.sizeOf5
 v5:=Tryd.zeroValue5
 t9:=Tryd.underlying9
 a9:=Tryd.isAgg9
 z9:=Tryd.sizeOf9
 v9:=Tryd.zeroValue9
 t46:=Tryd.underlying152
 a46:=Tryd.isAgg152
 z46:=Tryd.sizeOf152
 v46:=Tryd.zeroValue152
 t51:=Tryd.underlying156
 a51:=Tryd.isAgg156
 z51:=Tryd.sizeOf156
 v51:=Tryd.zeroValue156
 t146:=Tryd.underlying159
 a146:=Tryd.isAgg159
 z146:=Tryd.sizeOf159
 v146:=Tryd.zeroValue159
 g1:=by kernel_rfl}
open Go.RowKit Go.Lib in
theorem Tryd.strings_Contains (s sub:ByteArray) (m:Int) (w:World) (hs:s.size<4294967281) (hm:w.cell? ⟨1,0,none⟩=some (.int .i64 m)):
 Calls Tryd.prog 69 #[.string s,.string sub] w fun e w'=>e= .returned (.bool (Lib.contains s.data.toList sub.data.toList))∧w'=w:=Any.strings_Contains Tryd.lays144 s sub m w hs hm
end Go.Proofs
namespace Go.Abs
open Go.Proofs
def strings_Contains:Nat→Str→Str→Option Bool
 |0,_,_=>none
 |_+1,a0,a1=>bif decide (a0.length<4294967281) then some (Lib.contains a0 a1) else none
theorem MF: ∀ (n:Nat) (a0 a1:Str) (r:Bool),strings_Contains n a0 a1=some r→xS Tryd.prog 69 [sD.enc a0,sD.enc a1] (fun v=>v=pe.enc r)
 |0,_,_,_,h=>by cases h
 |_+1,a0,a1,r,h=>by
  simp only[strings_Contains] at h
  cases h1:decide (a0.length<4294967281) with
  |false=>rw[h1] at h;cases h
  |true=>
   rw[h1,cond_true,Option.some.injEq] at h
   subst h
   exact WN (g:=1) (by kernel_rfl) (.inl ⟨rfl,rfl⟩) (fun _ h=>h.1 rfl) (fun s sep m w a b=>Tryd.strings_Contains s sep m w a b) a0 a1 (of_decide_eq_true h1)
end Go.Abs
