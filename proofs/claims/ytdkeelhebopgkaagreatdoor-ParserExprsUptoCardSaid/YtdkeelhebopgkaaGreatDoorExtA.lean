/- A part of the proof: functions of the library. -/
import Derived.Shelf.Strings.Search1
import Derived.Shelf.Strings.Search3
import Derived.Shelf.Strings.Cut
import Derived.Shelf.Strings.IndexAnyAll
import Derived.Shelf.Strconv.Atoi
import Derived.Shelf.LaysM
import Derived.Test.YtdkeelhebopgkaaGreatDoorProg
import Derived.Test.YtdkeelhebopgkaaGreatDoorCoreC
import Derived.KernelRfl
set_option linter.all false
open Go.Proofs.Tryz renaming prog→eY
open Go.Shelf renaming Ren→eZ
open Go.Proofs.Tryz
namespace Go.Proofs
open Go.Shelf
set_option maxRecDepth 100000
def Tryz.at5:eZ:=⟨fun|172=>181|244=>205|245=>206|247=>231|279=>232|280=>233|281=>234|282=>235|287=>252|316=>253|171=>255|205=>254|321=>264|322=>265|243=>266|246=>272|283=>277|284=>278|285=>279|286=>280|129=>284|317=>283|318=>285|319=>286|320=>287|337=>292|338=>293|n=>n,fun|9=>9|3=>3|75=>179|76=>180|4=>4|5=>5|167=>235|37=>236|0=>0|85=>237|2=>2|168=>239|53=>257|175=>258|46=>249|210=>262|127=>284|145=>287|143=>285|21=>21|171=>292|173=>295|212=>299|51=>242|20=>20|213=>300|232=>303|233=>304|80=>105|n=>n,fun|15=>3|16=>4|17=>7|18=>8|19=>9|n=>n⟩
def Tryz.aE7:Go.Proofs.Lays.n172 eY Tryz.at5:={
 mixed:=by kernel_rfl
 f129:=func284.trans (congrArg some (by kernel_rfl))
 f171:=func255.trans (congrArg some (by kernel_rfl))
 f172:=func181.trans (congrArg some (by kernel_rfl))
 f205:=func254.trans (congrArg some (by kernel_rfl))
 f243:=func266.trans (congrArg some (by kernel_rfl))
 f244:=func205.trans (congrArg some (by kernel_rfl))
 f245:=func206.trans (congrArg some (by kernel_rfl))
 f246:=func272.trans (congrArg some (by kernel_rfl))
 f247:=func231.trans (congrArg some (by kernel_rfl))
 f279:=func232.trans (congrArg some (by kernel_rfl))
 f280:=func233.trans (congrArg some (by kernel_rfl))
 f281:=func234.trans (congrArg some (by kernel_rfl))
 f282:=func235.trans (congrArg some (by kernel_rfl))
 f283:=func277.trans (congrArg some (by kernel_rfl))
 f284:=func278.trans (congrArg some (by kernel_rfl))
 f285:=func279.trans (congrArg some (by kernel_rfl))
 f286:=func280.trans (congrArg some (by kernel_rfl))
 f287:=func252.trans (congrArg some (by kernel_rfl))
 f316:=func253.trans (congrArg some (by kernel_rfl))
 f317:=func283.trans (congrArg some (by kernel_rfl))
 f318:=func285.trans (congrArg some (by kernel_rfl))
 f319:=func286.trans (congrArg some (by kernel_rfl))
 f320:=func287.trans (congrArg some (by kernel_rfl))
 f321:=func264.trans (congrArg some (by kernel_rfl))
 f322:=func265.trans (congrArg some (by kernel_rfl))
 f337:=func292.trans (congrArg some (by kernel_rfl))
 f338:=func293.trans (congrArg some (by kernel_rfl))
 t0:=Tryz.underlying0
 a0:=Tryz.isAgg0
 z0:=Tryz.sizeOf0
 v0:=Tryz.zeroValue0
 t2:=Tryz.underlying2
 a2:=Tryz.isAgg2
 z2:=Tryz.sizeOf2
 v2:=Tryz.zeroValue2
 t3:=Tryz.underlying3
 a3:=Tryz.isAgg3
 z3:=Tryz.sizeOf3
 v3:=Tryz.zeroValue3
 t4:=Tryz.underlying4
 a4:=Tryz.isAgg4
 z4:=Tryz.sizeOf4
 v4:=Tryz.zeroValue4
 t5:=Tryz.underlying5
 a5:=Tryz.isAgg5
 z5:=Tryz.sizeOf5
 v5:=Tryz.zeroValue5
 t9:=Tryz.underlying9
 a9:=Tryz.isAgg9
 z9:=Tryz.sizeOf9
 v9:=Tryz.zeroValue9
 t20:=Tryz.underlying20
 a20:=Tryz.isAgg20
 z20:=Tryz.sizeOf20
 v20:=Tryz.zeroValue20
 t21:=Tryz.underlying21
 a21:=Tryz.isAgg21
 z21:=Tryz.sizeOf21
 v21:=Tryz.zeroValue21
 t37:=Tryz.underlying236
 a37:=Tryz.isAgg236
 z37:=Tryz.sizeOf236
 v37:=Tryz.zeroValue236
 t46:=Tryz.underlying249
 a46:=Tryz.isAgg249
 z46:=Tryz.sizeOf249
 v46:=Tryz.zeroValue249
 t51:=Tryz.underlying242
 a51:=Tryz.isAgg242
 z51:=Tryz.sizeOf242
 v51:=Tryz.zeroValue242
 t53:=Tryz.underlying257
 a53:=Tryz.isAgg257
 z53:=Tryz.sizeOf257
 v53:=Tryz.zeroValue257
 t75:=Tryz.underlying179
 a75:=Tryz.isAgg179
 z75:=Tryz.sizeOf179
 v75:=Tryz.zeroValue179
 t76:=Tryz.underlying180
 a76:=Tryz.isAgg180
 z76:=Tryz.sizeOf180
 v76:=Tryz.zeroValue180
 t85:=Tryz.underlying237
 a85:=Tryz.isAgg237
 z85:=Tryz.sizeOf237
 v85:=Tryz.zeroValue237
 t127:=Tryz.underlying284
 a127:=Tryz.isAgg284
 z127:=Tryz.sizeOf284
 v127:=Tryz.zeroValue284
 t143:=Tryz.underlying285
 a143:=Tryz.isAgg285
 z143:=Tryz.sizeOf285
 v143:=Tryz.zeroValue285
 t145:=Tryz.underlying287
 a145:=Tryz.isAgg287
 z145:=Tryz.sizeOf287
 v145:=Tryz.zeroValue287
 t167:=Tryz.underlying235
 a167:=Tryz.isAgg235
 z167:=Tryz.sizeOf235
 v167:=Tryz.zeroValue235
 t168:=Tryz.underlying239
 a168:=Tryz.isAgg239
 z168:=Tryz.sizeOf239
 v168:=Tryz.zeroValue239
 t171:=Tryz.underlying292
 a171:=Tryz.isAgg292
 z171:=Tryz.sizeOf292
 v171:=Tryz.zeroValue292
 t173:=Tryz.underlying295
 a173:=Tryz.isAgg295
 z173:=Tryz.sizeOf295
 v173:=Tryz.zeroValue295
 t175:=Tryz.underlying258
 a175:=Tryz.isAgg258
 z175:=Tryz.sizeOf258
 v175:=Tryz.zeroValue258
 t210:=Tryz.underlying262
 a210:=Tryz.isAgg262
 z210:=Tryz.sizeOf262
 v210:=Tryz.zeroValue262
 t212:=Tryz.underlying299
 a212:=Tryz.isAgg299
 z212:=Tryz.sizeOf299
 v212:=Tryz.zeroValue299
 t213:=Tryz.underlying300
 a213:=Tryz.isAgg300
 z213:=Tryz.sizeOf300
 t232:=Tryz.underlying303
 a232:=Tryz.isAgg303
 z232:=Tryz.sizeOf303
 v232:=Tryz.zeroValue303
 t233:=Tryz.underlying304
 a233:=Tryz.isAgg304
 z233:=Tryz.sizeOf304
 v233:=Tryz.zeroValue304
 g15:=by kernel_rfl
 g16:=by kernel_rfl
 g17:=by kernel_rfl
 g18:=by kernel_rfl
 g19:=by kernel_rfl}
open Go.RowKit in
theorem Tryz.strconv_Atoi(s:ByteArray)(n:Int)(hl:s.size<=18)(h:Lib.atoi s.data.toList=some n)(w:World):
 Calls eY 181 #[.string s] w fun e w'=>e=.returned (.tuple #[.int .i64 n,.nilIface])/\∃t,w'=Lib.bytesWorld w 5 t:=Any.strconv_Atoi Tryz.aE7 s n hl h w
def Tryz.at6:eZ:=⟨fun|217=>175|266=>204|n=>n,fun|9=>9|5=>5|3=>3|n=>n,fun|n=>n⟩
def Tryz.aE8:Go.Proofs.Lays.n217 eY Tryz.at6:={
 mixed:=by kernel_rfl
 f217:=func175.trans (congrArg some (by kernel_rfl))
 f266:=func204.trans (congrArg some (by kernel_rfl))
 t3:=Tryz.underlying3
 a3:=Tryz.isAgg3
 z3:=Tryz.sizeOf3
 v3:=Tryz.zeroValue3
 t5:=Tryz.underlying5
 a5:=Tryz.isAgg5
 z5:=Tryz.sizeOf5
 v5:=Tryz.zeroValue5
 t9:=Tryz.underlying9
 a9:=Tryz.isAgg9
 z9:=Tryz.sizeOf9
 v9:=Tryz.zeroValue9}
open Go.RowKit Go.Lib in
def Tryz.stringslite_IndexByte(s:ByteArray)(c:Int)(w:World):
 Calls eY 175 #[.string s,.int .u8 c] w fun e w'=>e=.returned (.int .i64 (Lib.indexByte s.data.toList c.toNat.toUInt8))/\w'=w:=Any.stringslite_IndexByte Tryz.aE8 s c w
def Tryz.at7:eZ:=⟨fun|144=>166|143=>200|219=>224|217=>175|225=>240|224=>239|267=>246|266=>204|314=>261|n=>n,fun|9=>9|4=>4|3=>3|5=>5|46=>249|146=>280|51=>242|n=>n,fun|1=>1|n=>n⟩
def Tryz.aE9:Go.Proofs.Lays.n144 eY Tryz.at7:={
 mixed:=by kernel_rfl
 f143:=func200.trans (congrArg some (by kernel_rfl))
 f144:=func166.trans (congrArg some (by kernel_rfl))
 f217:=func175.trans (congrArg some (by kernel_rfl))
 f219:=func224.trans (congrArg some (by kernel_rfl))
 f224:=func239.trans (congrArg some (by kernel_rfl))
 f225:=func240.trans (congrArg some (by kernel_rfl))
 f266:=func204.trans (congrArg some (by kernel_rfl))
 f267:=func246.trans (congrArg some (by kernel_rfl))
 f314:=func261.trans (congrArg some (by kernel_rfl))
 t3:=Tryz.underlying3
 a3:=Tryz.isAgg3
 z3:=Tryz.sizeOf3
 v3:=Tryz.zeroValue3
 t4:=Tryz.underlying4
 a4:=Tryz.isAgg4
 z4:=Tryz.sizeOf4
 v4:=Tryz.zeroValue4
 t5:=Tryz.underlying5
 a5:=Tryz.isAgg5
 z5:=Tryz.sizeOf5
 v5:=Tryz.zeroValue5
 t9:=Tryz.underlying9
 a9:=Tryz.isAgg9
 z9:=Tryz.sizeOf9
 v9:=Tryz.zeroValue9
 t46:=Tryz.underlying249
 a46:=Tryz.isAgg249
 z46:=Tryz.sizeOf249
 v46:=Tryz.zeroValue249
 t51:=Tryz.underlying242
 a51:=Tryz.isAgg242
 z51:=Tryz.sizeOf242
 v51:=Tryz.zeroValue242
 t146:=Tryz.underlying280
 a146:=Tryz.isAgg280
 z146:=Tryz.sizeOf280
 v146:=Tryz.zeroValue280
 g1:=by kernel_rfl}
open Go.RowKit Go.Lib in
def Tryz.strings_Contains(s sub:ByteArray)(m:Int)(w:World)(hs:s.size<4294967281)(hm:w.cell? ⟨1,0,none⟩=some (.int .i64 m)):
 Calls eY 166 #[.string s,.string sub] w fun e w'=>e=.returned (.bool (Lib.contains s.data.toList sub.data.toList))/\w'=w:=Any.strings_Contains Tryz.aE9 s sub m w hs hm
def Tryz.aua:eZ:=⟨fun|145=>189|220=>215|219=>224|217=>175|225=>240|224=>239|267=>246|266=>204|314=>261|n=>n,fun|9=>9|4=>4|59=>188|3=>3|5=>5|46=>249|146=>280|51=>242|n=>n,fun|1=>1|n=>n⟩
def Tryz.aFa:Go.Proofs.Lays.n145 eY Tryz.aua:={
 mixed:=by kernel_rfl
 f145:=func189.trans (congrArg some (by kernel_rfl))
 f217:=func175.trans (congrArg some (by kernel_rfl))
 f219:=func224.trans (congrArg some (by kernel_rfl))
 f220:=func215.trans (congrArg some (by kernel_rfl))
 f224:=func239.trans (congrArg some (by kernel_rfl))
 f225:=func240.trans (congrArg some (by kernel_rfl))
 f266:=func204.trans (congrArg some (by kernel_rfl))
 f267:=func246.trans (congrArg some (by kernel_rfl))
 f314:=func261.trans (congrArg some (by kernel_rfl))
 t3:=Tryz.underlying3
 a3:=Tryz.isAgg3
 z3:=Tryz.sizeOf3
 v3:=Tryz.zeroValue3
 t4:=Tryz.underlying4
 a4:=Tryz.isAgg4
 z4:=Tryz.sizeOf4
 v4:=Tryz.zeroValue4
 t5:=Tryz.underlying5
 a5:=Tryz.isAgg5
 z5:=Tryz.sizeOf5
 v5:=Tryz.zeroValue5
 t9:=Tryz.underlying9
 a9:=Tryz.isAgg9
 z9:=Tryz.sizeOf9
 v9:=Tryz.zeroValue9
 t46:=Tryz.underlying249
 a46:=Tryz.isAgg249
 z46:=Tryz.sizeOf249
 v46:=Tryz.zeroValue249
 t51:=Tryz.underlying242
 a51:=Tryz.isAgg242
 z51:=Tryz.sizeOf242
 v51:=Tryz.zeroValue242
 t59:=Tryz.underlying188
 a59:=Tryz.isAgg188
 z59:=Tryz.sizeOf188
 v59:=Tryz.zeroValue188
 t146:=Tryz.underlying280
 a146:=Tryz.isAgg280
 z146:=Tryz.sizeOf280
 v146:=Tryz.zeroValue280
 g1:=by kernel_rfl}
open Go.RowKit Go.Lib in
def Tryz.strings_Cut(s sep:ByteArray)(m:Int)(w:World)(hs:s.size<4294967281)(hm:w.cell? ⟨1,0,none⟩=some (.int .i64 m)):
 Calls eY 189 #[.string s,.string sep] w fun e w'=>e=.returned (.tuple #[.string ⟨(Lib.cut s.data.toList sep.data.toList).1.toArray⟩,.string ⟨(Lib.cut s.data.toList sep.data.toList).2.1.toArray⟩,.bool (Lib.cut s.data.toList sep.data.toList).2.2])/\∃n,w'=w.drewN n:=Any.strings_Cut Tryz.aFa s sep m w hs hm
def Tryz.aub:eZ:=⟨fun|153=>187|152=>211|226=>212|227=>213|228=>214|137=>135|119=>238|224=>239|225=>240|217=>175|266=>204|n=>n,fun|9=>9|3=>3|4=>4|5=>5|21=>21|117=>221|116=>220|0=>0|46=>249|124=>250|n=>n,fun|n=>n⟩
def Tryz.aFb:Go.Proofs.Lays.n153 eY Tryz.aub:={
 mixed:=by kernel_rfl
 f119:=func238.trans (congrArg some (by kernel_rfl))
 f137:=func135.trans (congrArg some (by kernel_rfl))
 f152:=func211.trans (congrArg some (by kernel_rfl))
 f153:=func187.trans (congrArg some (by kernel_rfl))
 f217:=func175.trans (congrArg some (by kernel_rfl))
 f224:=func239.trans (congrArg some (by kernel_rfl))
 f225:=func240.trans (congrArg some (by kernel_rfl))
 f226:=func212.trans (congrArg some (by kernel_rfl))
 f227:=func213.trans (congrArg some (by kernel_rfl))
 f228:=func214.trans (congrArg some (by kernel_rfl))
 f266:=func204.trans (congrArg some (by kernel_rfl))
 t0:=Tryz.underlying0
 a0:=Tryz.isAgg0
 z0:=Tryz.sizeOf0
 v0:=Tryz.zeroValue0
 t3:=Tryz.underlying3
 a3:=Tryz.isAgg3
 z3:=Tryz.sizeOf3
 v3:=Tryz.zeroValue3
 t4:=Tryz.underlying4
 a4:=Tryz.isAgg4
 z4:=Tryz.sizeOf4
 v4:=Tryz.zeroValue4
 t5:=Tryz.underlying5
 a5:=Tryz.isAgg5
 z5:=Tryz.sizeOf5
 v5:=Tryz.zeroValue5
 t9:=Tryz.underlying9
 a9:=Tryz.isAgg9
 z9:=Tryz.sizeOf9
 v9:=Tryz.zeroValue9
 t21:=Tryz.underlying21
 a21:=Tryz.isAgg21
 z21:=Tryz.sizeOf21
 v21:=Tryz.zeroValue21
 t46:=Tryz.underlying249
 a46:=Tryz.isAgg249
 z46:=Tryz.sizeOf249
 v46:=Tryz.zeroValue249
 t116:=Tryz.underlying220
 a116:=Tryz.isAgg220
 z116:=Tryz.sizeOf220
 t117:=Tryz.underlying221
 a117:=Tryz.isAgg221
 z117:=Tryz.sizeOf221
 v117:=Tryz.zeroValue221
 t124:=Tryz.underlying250
 a124:=Tryz.isAgg250
 z124:=Tryz.sizeOf250
 v124:=Tryz.zeroValue250}
open Go.RowKit Go.Lib in
def Tryz.strings_IndexAny_long(aJF:∀w,(zeroValue 220).run eY w=.ok (.agg (Array.replicate 256 (.bool false))) w)(s chars:ByteArray)(w:World)(h2:2<=chars.size)(h8:8<s.size)(hs:s.size<4294967281)(hcs:chars.size<4294967281)(aHE:∀(j:Nat) b,chars.data.toList[j]? =some b->b.toNat<128):
 Calls eY 187 #[.string s,.string chars] w fun e w'=>e=.returned (.int .i64 (Lib.indexAny s.data.toList chars.data.toList))/\w'=((w.alloc (.cells (Lib.setCells chars.data.toList) 220)).alloc (.cells (Lib.setCells chars.data.toList) 220)):=Any.strings_IndexAny_long Tryz.aFb aJF (by kernel_rfl) s chars w h2 h8 hs hcs aHE
end Go.Proofs
namespace Go.Abs
open Go.Proofs
def Cl:Nat->Str->Int->Option Int
 |0,_,_=>none
 |_+1,a0,a1=>some (Lib.indexByte a0 (aGa a1))
def Kh:∀(n:Nat)(a0:Str)(a1:Int)(r:Int),Cl n a0 a1=some r->Ku eY 175 [mb.enc a0,(lR .u8).enc a1] (fun v=>v=(lR .i64).enc r)
 |0,_,_,_,h=>by cases h
 |_+1,a0,a1,r,h=>by
  cases h;exact an8 (by kernel_rfl) (fun s c w=>Tryz.stringslite_IndexByte s c w) a0 a1
def strconv_Atoi:Nat->Str->Option (Int×Unit)
 |0,_=>none
 |_+1,a0=>bif decide (a0.length<=18)then(Lib.atoi a0).map fun n=>(n,())else none
def akG:∀(n:Nat)(a0:Str)(r:(Int×Unit)),strconv_Atoi n a0=some r->Ku eY 181 [mb.enc a0] (fun v=>v=(ty2 (lR .i64) aB6).enc r)
 |0,_,_,h=>by cases h
 |_+1,a0,r,h=>by
  simp only[strconv_Atoi]at h;cases h1:decide (a0.length<=18)with
  |false=>rw[h1]at h;cases h
  |true=>
   rw[h1,cond_true,Option.map_eq_some_iff]at h;obtain⟨m,hm,rfl⟩:=h;exact aB7 (by kernel_rfl) (fun s n w a b=>Tryz.strconv_Atoi s n a b w) a0 m (of_decide_eq_true h1) hm
def strings_Contains:Nat->Str->Str->Option Bool
 |0,_,_=>none
 |_+1,a0,a1=>bif decide (a0.length<4294967281)then some (Lib.contains a0 a1)else none
def Hf:∀(n:Nat)(a0 a1:Str)(r:Bool),strings_Contains n a0 a1=some r->Ku eY 166 [mb.enc a0,mb.enc a1] (fun v=>v=nk.enc r)
 |0,_,_,_,h=>by cases h
 |_+1,a0,a1,r,h=>by
  simp only[strings_Contains]at h;cases h1:decide (a0.length<4294967281)with
  |false=>rw[h1]at h;cases h
  |true=>
   rw[h1,cond_true,Option.some.injEq]at h;subst h;exact aqN (g:=1) (by kernel_rfl) (.inl ⟨rfl,rfl⟩) (fun _ h=>h.1 rfl) (fun s sep m w a b=>Tryz.strings_Contains s sep m w a b) a0 a1 (of_decide_eq_true h1)
def strings_Cut:Nat->Str->Str->Option (Str×Str×Bool)
 |0,_,_=>none
 |_+1,a0,a1=>bif decide (a0.length<4294967281)then some (Lib.cut a0 a1)else none
def amP:∀(n:Nat)(a0 a1:Str)(r:(Str×Str×Bool)),strings_Cut n a0 a1=some r->Ku eY 189 [mb.enc a0,mb.enc a1] (fun v=>v=(ty3 mb mb nk).enc r)
 |0,_,_,_,h=>by cases h
 |_+1,a0,a1,r,h=>by
  simp only[strings_Cut]at h;cases h1:decide (a0.length<4294967281)with
  |false=>rw[h1]at h;cases h
  |true=>
   rw[h1,cond_true,Option.some.injEq]at h;subst h;exact aEM (g:=1) (by kernel_rfl) (.inl ⟨rfl,rfl⟩) (fun _ h=>h.1 rfl) (fun s sep m w a b=>Tryz.strings_Cut s sep m w a b) a0 a1 (of_decide_eq_true h1)
def xS:Nat->Str->Str->Option Int
 |0,_,_=>none
 |_+1,a0,a1=>bif decide (2<=a1.length)&&(decide (8<a0.length)&&(decide (a0.length<4294967281)&&(decide (a1.length<4294967281)&&a1.all (fun b=>decide (b.toNat<128)))))then some (Lib.indexAny a0 a1)else none
def abH:∀(n:Nat)(a0 a1:Str)(r:Int),xS n a0 a1=some r->Ku eY 187 [mb.enc a0,mb.enc a1] (fun v=>v=(lR .i64).enc r)
 |0,_,_,_,h=>by cases h
 |_+1,a0,a1,r,h=>by
  simp only[xS]at h;cases h1:decide (2<=a1.length)&&(decide (8<a0.length)&&(decide (a0.length<4294967281)&&(decide (a1.length<4294967281)&&a1.all (fun b=>decide (b.toNat<128)))))with
  |false=>rw[h1]at h;cases h
  |true=>
   rw[h1,cond_true,Option.some.injEq]at h;subst h;simp only[Bool.and_eq_true,decide_eq_true_eq,List.all_eq_true]at h1;obtain⟨h2,h8,h3,h4,h5⟩:=h1;exact aqO (t:=220) (by kernel_rfl) (fun s c w a b c' d e=>(Tryz.strings_IndexAny_long (fun w=>by kernel_rfl) s c w a b c' d e).mono (fun _ _ h=>⟨h.1,_,_,h.2⟩)) a0 a1 h2 h8 h3 h4 h5
end Go.Abs
