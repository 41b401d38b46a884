/- A part of the proof: functions of the library. -/
import Derived.Shelf.Strings.Search1
import Derived.Shelf.Strings.Search3
import Derived.Shelf.Strings.Cut
import Derived.Shelf.Strings.IndexAnyAll
import Derived.Shelf.Strconv.Atoi
import Derived.Shelf.LaysM
import Derived.Shelf.Strconv.Itoa3
import Derived.Shelf.Strings.OnBuilder
import Derived.Shelf.Strings.Builder1
import Derived.Shelf.Strings.Builder2
import Derived.Test.YtpdbjkgnmjnebaaGreatDoorProg
import Derived.Test.YtpdbjkgnmjnebaaGreatDoorCoreC
import Derived.Test.YtpdbjkgnmjnebaaGreatDoorCoreD
import Derived.Test.YtpdbjkgnmjnebaaGreatDoorDataA
import Derived.KernelRfl
set_option linter.all false
open Go.Proofs.Tryz renaming prog→fP
open Go.Shelf renaming Ren→fQ
open Option.some renaming injEq→fR
noncomputable section
open Go.Proofs.Tryz
namespace Go.Proofs
open Go.Shelf
set_option maxRecDepth 100000
def Tryz.agL:fQ:=⟨fun|169=>72|n=>n,fun|70=>136|9=>9|0=>0|72=>139|37=>137|127=>213|3=>3|5=>5|n=>n,fun|n=>n⟩
def Tryz.aHB:Go.Proofs.Lays.n169 fP Tryz.agL:={
 mixed:=by kernel_rfl
 f169:=func72.trans (congrArg some (by kernel_rfl))
 t0:=Tryz.underlying0
 a0:=Tryz.isAgg0
 z0:=Tryz.sizeOf0
 v0:=Tryz.zeroValue0
 t3:=Tryz.underlying3
 a3:=Tryz.isAgg3
 z3:=Tryz.sizeOf3
 v3:=Tryz.zeroValue3
 t9:=Tryz.underlying9
 a9:=Tryz.isAgg9
 z9:=Tryz.sizeOf9
 v9:=Tryz.zeroValue9
 t37:=Tryz.underlying137
 a37:=Tryz.isAgg137
 z37:=Tryz.sizeOf137
 v37:=Tryz.zeroValue137
 t70:=Tryz.underlying136
 a70:=Tryz.isAgg136
 z70:=Tryz.sizeOf136
 v70:=Tryz.zeroValue136
 t72:=Tryz.underlying139
 a72:=Tryz.isAgg139
 z72:=Tryz.sizeOf139
 v72:=Tryz.zeroValue139
 t127:=Tryz.underlying213
 a127:=Tryz.isAgg213
 z127:=Tryz.sizeOf213
 v127:=Tryz.zeroValue213}
def Tryz.aJ8:Builder.Extra fP Tryz.agL:={
 sizeBuilder:=by kernel_rfl
 liesBuilder:=by kernel_rfl
 t5:=Tryz.underlying5
 a5:=Tryz.isAgg5
 z5:=Tryz.sizeOf5
 v5:=Tryz.zeroValue5
 infoByte:=by kernel_rfl
 cellsByte:=by kernel_rfl
 sizeByte:=by kernel_rfl
 neB5:=by decide}
def Tryz.anu:fQ:=⟨fun|156=>260|165=>291|166=>187|169=>72|240=>231|241=>309|276=>267|277=>322|n=>n,fun|31=>23|9=>9|3=>3|4=>4|0=>0|20=>20|72=>139|76=>256|70=>136|37=>137|75=>255|127=>213|164=>323|5=>5|80=>143|n=>n,fun|n=>n⟩
def Tryz.aAz:Go.Proofs.Lays.n156 fP Tryz.anu:={
 mixed:=by kernel_rfl
 f156:=func260.trans (congrArg some (by kernel_rfl))
 f165:=func291.trans (congrArg some (by kernel_rfl))
 f166:=func187.trans (congrArg some (by kernel_rfl))
 f169:=func72.trans (congrArg some (by kernel_rfl))
 f240:=func231.trans (congrArg some (by kernel_rfl))
 f241:=func309.trans (congrArg some (by kernel_rfl))
 f276:=func267.trans (congrArg some (by kernel_rfl))
 f277:=func322.trans (congrArg some (by kernel_rfl))
 t0:=Tryz.underlying0
 a0:=Tryz.isAgg0
 z0:=Tryz.sizeOf0
 v0:=Tryz.zeroValue0
 t3:=Tryz.underlying3
 a3:=Tryz.isAgg3
 z3:=Tryz.sizeOf3
 v3:=Tryz.zeroValue3
 t4:=Tryz.underlying4
 a4:=Tryz.isAgg4
 z4:=Tryz.sizeOf4
 v4:=Tryz.zeroValue4
 t9:=Tryz.underlying9
 a9:=Tryz.isAgg9
 z9:=Tryz.sizeOf9
 v9:=Tryz.zeroValue9
 t20:=Tryz.underlying20
 a20:=Tryz.isAgg20
 z20:=Tryz.sizeOf20
 v20:=Tryz.zeroValue20
 t31:=Tryz.underlying23
 a31:=Tryz.isAgg23
 z31:=Tryz.sizeOf23
 v31:=Tryz.zeroValue23
 t37:=Tryz.underlying137
 a37:=Tryz.isAgg137
 z37:=Tryz.sizeOf137
 v37:=Tryz.zeroValue137
 t70:=Tryz.underlying136
 a70:=Tryz.isAgg136
 z70:=Tryz.sizeOf136
 v70:=Tryz.zeroValue136
 t72:=Tryz.underlying139
 a72:=Tryz.isAgg139
 z72:=Tryz.sizeOf139
 v72:=Tryz.zeroValue139
 t75:=Tryz.underlying255
 a75:=Tryz.isAgg255
 z75:=Tryz.sizeOf255
 v75:=Tryz.zeroValue255
 t76:=Tryz.underlying256
 a76:=Tryz.isAgg256
 z76:=Tryz.sizeOf256
 v76:=Tryz.zeroValue256
 t127:=Tryz.underlying213
 a127:=Tryz.isAgg213
 z127:=Tryz.sizeOf213
 v127:=Tryz.zeroValue213
 t164:=Tryz.underlying323
 a164:=Tryz.isAgg323
 z164:=Tryz.sizeOf323
 v164:=Tryz.zeroValue323}
def Tryz.Zi:Builder.Extra fP Tryz.anu:={
 sizeBuilder:=by kernel_rfl
 liesBuilder:=by kernel_rfl
 t5:=Tryz.underlying5
 a5:=Tryz.isAgg5
 z5:=Tryz.sizeOf5
 v5:=Tryz.zeroValue5
 infoByte:=by kernel_rfl
 cellsByte:=by kernel_rfl
 sizeByte:=by kernel_rfl
 neB5:=by decide}
open Go.RowKit in
def Tryz.strings_Join_none(a:Option Addr)(c:Nat)(sep:ByteArray)(w:World):
 Calls fP 260 #[.slice a 0 c,.string sep] w fun e w'=>e=.returned (.string ⟨#[]⟩)/\w'=w:=Any.strings_Join_none Tryz.aAz Tryz.Zi a c sep w
open Go.RowKit in
def Tryz.strings_Join(bk o c:Nat)(xs:List ByteArray)(sep:ByteArray)(w:World)(al9:∀(j:Nat) x,xs[j]? =some x->w.cell? ⟨bk,o+j,none⟩=some (.string x))(hbk:bk<w.heap.size)(hN:xs.length<=140737488355328)(GI:xs.length<=c)(hlen:(Lib.join (xs.map (·.data.toList)) sep.data.toList).length<=140737488355328):
 Calls fP 260 #[.slice (some ⟨bk,o,none⟩) xs.length c,.string sep] w fun e w'=>e=.returned (.string ⟨(Lib.join (xs.map (·.data.toList)) sep.data.toList).toArray⟩)/\Below w.heap.size w w':=Any.strings_Join Tryz.aAz Tryz.Zi bk o c xs sep w al9 hbk hN GI hlen
def Tryz.awO:fQ:=⟨fun|172=>333|244=>336|245=>337|247=>341|279=>342|280=>343|281=>344|282=>345|287=>349|316=>350|171=>170|205=>351|321=>353|322=>354|243=>223|246=>265|283=>293|284=>294|285=>295|286=>296|129=>311|317=>310|318=>312|319=>313|320=>314|337=>323|338=>324|n=>n,fun|9=>9|3=>3|75=>255|76=>256|4=>4|5=>5|167=>404|37=>137|0=>0|85=>405|2=>2|168=>407|53=>352|175=>410|46=>219|210=>413|127=>213|145=>418|143=>416|21=>21|171=>351|173=>355|212=>370|51=>264|20=>20|213=>371|232=>399|233=>400|80=>143|n=>n,fun|15=>8|16=>9|17=>3|18=>6|19=>7|n=>n⟩
def Tryz.aHC:Go.Proofs.Lays.n172 fP Tryz.awO:={
 mixed:=by kernel_rfl
 f129:=func311.trans (congrArg some (by kernel_rfl))
 f171:=func170.trans (congrArg some (by kernel_rfl))
 f172:=func333.trans (congrArg some (by kernel_rfl))
 f205:=func351.trans (congrArg some (by kernel_rfl))
 f243:=func223.trans (congrArg some (by kernel_rfl))
 f244:=func336.trans (congrArg some (by kernel_rfl))
 f245:=func337.trans (congrArg some (by kernel_rfl))
 f246:=func265.trans (congrArg some (by kernel_rfl))
 f247:=func341.trans (congrArg some (by kernel_rfl))
 f279:=func342.trans (congrArg some (by kernel_rfl))
 f280:=func343.trans (congrArg some (by kernel_rfl))
 f281:=func344.trans (congrArg some (by kernel_rfl))
 f282:=func345.trans (congrArg some (by kernel_rfl))
 f283:=func293.trans (congrArg some (by kernel_rfl))
 f284:=func294.trans (congrArg some (by kernel_rfl))
 f285:=func295.trans (congrArg some (by kernel_rfl))
 f286:=func296.trans (congrArg some (by kernel_rfl))
 f287:=func349.trans (congrArg some (by kernel_rfl))
 f316:=func350.trans (congrArg some (by kernel_rfl))
 f317:=func310.trans (congrArg some (by kernel_rfl))
 f318:=func312.trans (congrArg some (by kernel_rfl))
 f319:=func313.trans (congrArg some (by kernel_rfl))
 f320:=func314.trans (congrArg some (by kernel_rfl))
 f321:=func353.trans (congrArg some (by kernel_rfl))
 f322:=func354.trans (congrArg some (by kernel_rfl))
 f337:=func323.trans (congrArg some (by kernel_rfl))
 f338:=func324.trans (congrArg some (by kernel_rfl))
 t0:=Tryz.underlying0
 a0:=Tryz.isAgg0
 z0:=Tryz.sizeOf0
 v0:=Tryz.zeroValue0
 t2:=Tryz.underlying2
 a2:=Tryz.isAgg2
 z2:=Tryz.sizeOf2
 v2:=Tryz.zeroValue2
 t3:=Tryz.underlying3
 a3:=Tryz.isAgg3
 z3:=Tryz.sizeOf3
 v3:=Tryz.zeroValue3
 t4:=Tryz.underlying4
 a4:=Tryz.isAgg4
 z4:=Tryz.sizeOf4
 v4:=Tryz.zeroValue4
 t5:=Tryz.underlying5
 a5:=Tryz.isAgg5
 z5:=Tryz.sizeOf5
 v5:=Tryz.zeroValue5
 t9:=Tryz.underlying9
 a9:=Tryz.isAgg9
 z9:=Tryz.sizeOf9
 v9:=Tryz.zeroValue9
 t20:=Tryz.underlying20
 a20:=Tryz.isAgg20
 z20:=Tryz.sizeOf20
 v20:=Tryz.zeroValue20
 t21:=Tryz.underlying21
 a21:=Tryz.isAgg21
 z21:=Tryz.sizeOf21
 v21:=Tryz.zeroValue21
 t37:=Tryz.underlying137
 a37:=Tryz.isAgg137
 z37:=Tryz.sizeOf137
 v37:=Tryz.zeroValue137
 t46:=Tryz.underlying219
 a46:=Tryz.isAgg219
 z46:=Tryz.sizeOf219
 v46:=Tryz.zeroValue219
 t51:=Tryz.underlying264
 a51:=Tryz.isAgg264
 z51:=Tryz.sizeOf264
 v51:=Tryz.zeroValue264
 t53:=Tryz.underlying352
 a53:=Tryz.isAgg352
 z53:=Tryz.sizeOf352
 v53:=Tryz.zeroValue352
 t75:=Tryz.underlying255
 a75:=Tryz.isAgg255
 z75:=Tryz.sizeOf255
 v75:=Tryz.zeroValue255
 t76:=Tryz.underlying256
 a76:=Tryz.isAgg256
 z76:=Tryz.sizeOf256
 v76:=Tryz.zeroValue256
 t85:=Tryz.underlying405
 a85:=Tryz.isAgg405
 z85:=Tryz.sizeOf405
 v85:=Tryz.zeroValue405
 t127:=Tryz.underlying213
 a127:=Tryz.isAgg213
 z127:=Tryz.sizeOf213
 v127:=Tryz.zeroValue213
 t143:=Tryz.underlying416
 a143:=Tryz.isAgg416
 z143:=Tryz.sizeOf416
 v143:=Tryz.zeroValue416
 t145:=Tryz.underlying418
 a145:=Tryz.isAgg418
 z145:=Tryz.sizeOf418
 v145:=Tryz.zeroValue418
 t167:=Tryz.underlying404
 a167:=Tryz.isAgg404
 z167:=Tryz.sizeOf404
 v167:=Tryz.zeroValue404
 t168:=Tryz.underlying407
 a168:=Tryz.isAgg407
 z168:=Tryz.sizeOf407
 v168:=Tryz.zeroValue407
 t171:=Tryz.underlying351
 a171:=Tryz.isAgg351
 z171:=Tryz.sizeOf351
 v171:=Tryz.zeroValue351
 t173:=Tryz.underlying355
 a173:=Tryz.isAgg355
 z173:=Tryz.sizeOf355
 v173:=Tryz.zeroValue355
 t175:=Tryz.underlying410
 a175:=Tryz.isAgg410
 z175:=Tryz.sizeOf410
 v175:=Tryz.zeroValue410
 t210:=Tryz.underlying413
 a210:=Tryz.isAgg413
 z210:=Tryz.sizeOf413
 v210:=Tryz.zeroValue413
 t212:=Tryz.underlying370
 a212:=Tryz.isAgg370
 z212:=Tryz.sizeOf370
 v212:=Tryz.zeroValue370
 t213:=Tryz.underlying371
 a213:=Tryz.isAgg371
 z213:=Tryz.sizeOf371
 t232:=Tryz.underlying399
 a232:=Tryz.isAgg399
 z232:=Tryz.sizeOf399
 v232:=Tryz.zeroValue399
 t233:=Tryz.underlying400
 a233:=Tryz.isAgg400
 z233:=Tryz.sizeOf400
 v233:=Tryz.zeroValue400
 g15:=by kernel_rfl
 g16:=by kernel_rfl
 g17:=by kernel_rfl
 g18:=by kernel_rfl
 g19:=by kernel_rfl}
open Go.RowKit in
theorem Tryz.strconv_Atoi(s:ByteArray)(n:Int)(hl:s.size<=18)(h:Lib.atoi s.data.toList=some n)(w:World):
 Calls fP 333 #[.string s] w fun e w'=>e=.returned (.tuple #[.int .i64 n,.nilIface])/\∃t,w'=Lib.bytesWorld w 5 t:=Any.strconv_Atoi Tryz.aHC s n hl h w
def Tryz.awP:fQ:=⟨fun|217=>143|266=>197|n=>n,fun|9=>9|5=>5|3=>3|n=>n,fun|n=>n⟩
def Tryz.aHD:Go.Proofs.Lays.n217 fP Tryz.awP:={
 mixed:=by kernel_rfl
 f217:=func143.trans (congrArg some (by kernel_rfl))
 f266:=func197.trans (congrArg some (by kernel_rfl))
 t3:=Tryz.underlying3
 a3:=Tryz.isAgg3
 z3:=Tryz.sizeOf3
 v3:=Tryz.zeroValue3
 t5:=Tryz.underlying5
 a5:=Tryz.isAgg5
 z5:=Tryz.sizeOf5
 v5:=Tryz.zeroValue5
 t9:=Tryz.underlying9
 a9:=Tryz.isAgg9
 z9:=Tryz.sizeOf9
 v9:=Tryz.zeroValue9}
open Go.RowKit Go.Lib in
def Tryz.stringslite_IndexByte(s:ByteArray)(c:Int)(w:World):
 Calls fP 143 #[.string s,.int .u8 c] w fun e w'=>e=.returned (.int .i64 (Lib.indexByte s.data.toList c.toNat.toUInt8))/\w'=w:=Any.stringslite_IndexByte Tryz.aHD s c w
def Tryz.awQ:fQ:=⟨fun|144=>12|143=>40|219=>80|217=>143|225=>144|224=>145|267=>146|266=>197|314=>198|n=>n,fun|9=>9|4=>4|3=>3|5=>5|46=>219|146=>265|51=>264|n=>n,fun|1=>0|n=>n⟩
def Tryz.aHE:Go.Proofs.Lays.n144 fP Tryz.awQ:={
 mixed:=by kernel_rfl
 f143:=func40.trans (congrArg some (by kernel_rfl))
 f144:=func12.trans (congrArg some (by kernel_rfl))
 f217:=func143.trans (congrArg some (by kernel_rfl))
 f219:=func80.trans (congrArg some (by kernel_rfl))
 f224:=func145.trans (congrArg some (by kernel_rfl))
 f225:=func144.trans (congrArg some (by kernel_rfl))
 f266:=func197.trans (congrArg some (by kernel_rfl))
 f267:=func146.trans (congrArg some (by kernel_rfl))
 f314:=func198.trans (congrArg some (by kernel_rfl))
 t3:=Tryz.underlying3
 a3:=Tryz.isAgg3
 z3:=Tryz.sizeOf3
 v3:=Tryz.zeroValue3
 t4:=Tryz.underlying4
 a4:=Tryz.isAgg4
 z4:=Tryz.sizeOf4
 v4:=Tryz.zeroValue4
 t5:=Tryz.underlying5
 a5:=Tryz.isAgg5
 z5:=Tryz.sizeOf5
 v5:=Tryz.zeroValue5
 t9:=Tryz.underlying9
 a9:=Tryz.isAgg9
 z9:=Tryz.sizeOf9
 v9:=Tryz.zeroValue9
 t46:=Tryz.underlying219
 a46:=Tryz.isAgg219
 z46:=Tryz.sizeOf219
 v46:=Tryz.zeroValue219
 t51:=Tryz.underlying264
 a51:=Tryz.isAgg264
 z51:=Tryz.sizeOf264
 v51:=Tryz.zeroValue264
 t146:=Tryz.underlying265
 a146:=Tryz.isAgg265
 z146:=Tryz.sizeOf265
 v146:=Tryz.zeroValue265
 g1:=by kernel_rfl}
open Go.RowKit Go.Lib in
def Tryz.strings_Contains(s sub:ByteArray)(m:Int)(w:World)(hs:s.size<4294967281)(hm:w.cell? ⟨0,0,none⟩=some (.int .i64 m)):
 Calls fP 12 #[.string s,.string sub] w fun e w'=>e=.returned (.bool (Lib.contains s.data.toList sub.data.toList))/\w'=w:=Any.strings_Contains Tryz.aHE s sub m w hs hm
def Tryz.awR:fQ:=⟨fun|145=>245|220=>281|219=>80|217=>143|225=>144|224=>145|267=>146|266=>197|314=>198|n=>n,fun|9=>9|4=>4|59=>302|3=>3|5=>5|46=>219|146=>265|51=>264|n=>n,fun|1=>0|n=>n⟩
def Tryz.aHF:Go.Proofs.Lays.n145 fP Tryz.awR:={
 mixed:=by kernel_rfl
 f145:=func245.trans (congrArg some (by kernel_rfl))
 f217:=func143.trans (congrArg some (by kernel_rfl))
 f219:=func80.trans (congrArg some (by kernel_rfl))
 f220:=func281.trans (congrArg some (by kernel_rfl))
 f224:=func145.trans (congrArg some (by kernel_rfl))
 f225:=func144.trans (congrArg some (by kernel_rfl))
 f266:=func197.trans (congrArg some (by kernel_rfl))
 f267:=func146.trans (congrArg some (by kernel_rfl))
 f314:=func198.trans (congrArg some (by kernel_rfl))
 t3:=Tryz.underlying3
 a3:=Tryz.isAgg3
 z3:=Tryz.sizeOf3
 v3:=Tryz.zeroValue3
 t4:=Tryz.underlying4
 a4:=Tryz.isAgg4
 z4:=Tryz.sizeOf4
 v4:=Tryz.zeroValue4
 t5:=Tryz.underlying5
 a5:=Tryz.isAgg5
 z5:=Tryz.sizeOf5
 v5:=Tryz.zeroValue5
 t9:=Tryz.underlying9
 a9:=Tryz.isAgg9
 z9:=Tryz.sizeOf9
 v9:=Tryz.zeroValue9
 t46:=Tryz.underlying219
 a46:=Tryz.isAgg219
 z46:=Tryz.sizeOf219
 v46:=Tryz.zeroValue219
 t51:=Tryz.underlying264
 a51:=Tryz.isAgg264
 z51:=Tryz.sizeOf264
 v51:=Tryz.zeroValue264
 t59:=Tryz.underlying302
 a59:=Tryz.isAgg302
 z59:=Tryz.sizeOf302
 v59:=Tryz.zeroValue302
 t146:=Tryz.underlying265
 a146:=Tryz.isAgg265
 z146:=Tryz.sizeOf265
 v146:=Tryz.zeroValue265
 g1:=by kernel_rfl}
open Go.RowKit Go.Lib in
def Tryz.strings_Cut(s sep:ByteArray)(m:Int)(w:World)(hs:s.size<4294967281)(hm:w.cell? ⟨0,0,none⟩=some (.int .i64 m)):
 Calls fP 245 #[.string s,.string sep] w fun e w'=>e=.returned (.tuple #[.string ⟨(Lib.cut s.data.toList sep.data.toList).1.toArray⟩,.string ⟨(Lib.cut s.data.toList sep.data.toList).2.1.toArray⟩,.bool (Lib.cut s.data.toList sep.data.toList).2.2])/\∃n,w'=w.drewN n:=Any.strings_Cut Tryz.aHF s sep m w hs hm
def Tryz.awS:fQ:=⟨fun|153=>242|152=>276|226=>277|227=>278|228=>279|137=>302|119=>303|224=>145|225=>144|217=>143|266=>197|n=>n,fun|9=>9|3=>3|4=>4|5=>5|21=>21|117=>338|116=>337|0=>0|46=>219|124=>365|n=>n,fun|n=>n⟩
def Tryz.aHG:Go.Proofs.Lays.n153 fP Tryz.awS:={
 mixed:=by kernel_rfl
 f119:=func303.trans (congrArg some (by kernel_rfl))
 f137:=func302.trans (congrArg some (by kernel_rfl))
 f152:=func276.trans (congrArg some (by kernel_rfl))
 f153:=func242.trans (congrArg some (by kernel_rfl))
 f217:=func143.trans (congrArg some (by kernel_rfl))
 f224:=func145.trans (congrArg some (by kernel_rfl))
 f225:=func144.trans (congrArg some (by kernel_rfl))
 f226:=func277.trans (congrArg some (by kernel_rfl))
 f227:=func278.trans (congrArg some (by kernel_rfl))
 f228:=func279.trans (congrArg some (by kernel_rfl))
 f266:=func197.trans (congrArg some (by kernel_rfl))
 t0:=Tryz.underlying0
 a0:=Tryz.isAgg0
 z0:=Tryz.sizeOf0
 v0:=Tryz.zeroValue0
 t3:=Tryz.underlying3
 a3:=Tryz.isAgg3
 z3:=Tryz.sizeOf3
 v3:=Tryz.zeroValue3
 t4:=Tryz.underlying4
 a4:=Tryz.isAgg4
 z4:=Tryz.sizeOf4
 v4:=Tryz.zeroValue4
 t5:=Tryz.underlying5
 a5:=Tryz.isAgg5
 z5:=Tryz.sizeOf5
 v5:=Tryz.zeroValue5
 t9:=Tryz.underlying9
 a9:=Tryz.isAgg9
 z9:=Tryz.sizeOf9
 v9:=Tryz.zeroValue9
 t21:=Tryz.underlying21
 a21:=Tryz.isAgg21
 z21:=Tryz.sizeOf21
 v21:=Tryz.zeroValue21
 t46:=Tryz.underlying219
 a46:=Tryz.isAgg219
 z46:=Tryz.sizeOf219
 v46:=Tryz.zeroValue219
 t116:=Tryz.underlying337
 a116:=Tryz.isAgg337
 z116:=Tryz.sizeOf337
 t117:=Tryz.underlying338
 a117:=Tryz.isAgg338
 z117:=Tryz.sizeOf338
 v117:=Tryz.zeroValue338
 t124:=Tryz.underlying365
 a124:=Tryz.isAgg365
 z124:=Tryz.sizeOf365
 v124:=Tryz.zeroValue365}
open Go.RowKit Go.Lib in
def Tryz.strings_IndexAny_long(aMp:∀w,(zeroValue 337).run fP w=.ok (.agg (Array.replicate 256 (.bool false))) w)(s chars:ByteArray)(w:World)(h2:2<=chars.size)(h8:8<s.size)(hs:s.size<4294967281)(hcs:chars.size<4294967281)(aJ9:∀(j:Nat) b,chars.data.toList[j]? =some b->b.toNat<128):
 Calls fP 242 #[.string s,.string chars] w fun e w'=>e=.returned (.int .i64 (Lib.indexAny s.data.toList chars.data.toList))/\w'=((w.alloc (.cells (Lib.setCells chars.data.toList) 337)).alloc (.cells (Lib.setCells chars.data.toList) 337)):=Any.strings_IndexAny_long Tryz.aHG aMp (by kernel_rfl) s chars w h2 h8 hs hcs aJ9
def Tryz.awT:fQ:=⟨fun|240=>231|276=>267|n=>n,fun|0=>0|4=>4|9=>9|20=>20|70=>136|72=>139|37=>137|164=>323|n=>n,fun|n=>n⟩
def Tryz.aAA:Go.Proofs.Lays.n240 fP Tryz.awT:={
 mixed:=by kernel_rfl
 f240:=func231.trans (congrArg some (by kernel_rfl))
 f276:=func267.trans (congrArg some (by kernel_rfl))
 t0:=Tryz.underlying0
 a0:=Tryz.isAgg0
 z0:=Tryz.sizeOf0
 v0:=Tryz.zeroValue0
 t4:=Tryz.underlying4
 a4:=Tryz.isAgg4
 z4:=Tryz.sizeOf4
 v4:=Tryz.zeroValue4
 t9:=Tryz.underlying9
 a9:=Tryz.isAgg9
 z9:=Tryz.sizeOf9
 v9:=Tryz.zeroValue9
 t20:=Tryz.underlying20
 a20:=Tryz.isAgg20
 z20:=Tryz.sizeOf20
 v20:=Tryz.zeroValue20
 t70:=Tryz.underlying136
 a70:=Tryz.isAgg136
 z70:=Tryz.sizeOf136
 v70:=Tryz.zeroValue136
 t72:=Tryz.underlying139
 a72:=Tryz.isAgg139
 z72:=Tryz.sizeOf139
 v72:=Tryz.zeroValue139
 t164:=Tryz.underlying323
 a164:=Tryz.isAgg323
 z164:=Tryz.sizeOf323
 v164:=Tryz.zeroValue323
}
def Tryz.atY:fQ:=⟨fun|171=>170|243=>223|246=>265|283=>293|284=>294|285=>295|286=>296|129=>311|317=>310|318=>312|319=>313|320=>314|337=>323|338=>324|n=>n,fun|3=>3|9=>9|2=>2|4=>4|171=>351|0=>0|53=>352|37=>137|5=>5|173=>355|212=>370|51=>264|20=>20|213=>371|46=>219|232=>399|233=>400|n=>n,fun|17=>3|18=>6|19=>7|n=>n⟩
def Tryz.aEG:Go.Proofs.LaysM.n171 fP Tryz.atY:={
 mixed:=by kernel_rfl
 f129:=func311.trans (congrArg some (by kernel_rfl))
 f171:=func170.trans (congrArg some (by kernel_rfl))
 f243:=func223.trans (congrArg some (by kernel_rfl))
 f246:=func265.trans (congrArg some (by kernel_rfl))
 f283:=func293.trans (congrArg some (by kernel_rfl))
 f284:=func294.trans (congrArg some (by kernel_rfl))
 f285:=func295.trans (congrArg some (by kernel_rfl))
 f286:=func296.trans (congrArg some (by kernel_rfl))
 f317:=func310.trans (congrArg some (by kernel_rfl))
 f318:=func312.trans (congrArg some (by kernel_rfl))
 f319:=func313.trans (congrArg some (by kernel_rfl))
 f320:=func314.trans (congrArg some (by kernel_rfl))
 f337:=func323.trans (congrArg some (by kernel_rfl))
 f338:=func324.trans (congrArg some (by kernel_rfl))
 t0:=Tryz.underlying0
 a0:=Tryz.isAgg0
 z0:=Tryz.sizeOf0
 v0:=Tryz.zeroValue0
 t2:=Tryz.underlying2
 a2:=Tryz.isAgg2
 z2:=Tryz.sizeOf2
 v2:=Tryz.zeroValue2
 t3:=Tryz.underlying3
 a3:=Tryz.isAgg3
 z3:=Tryz.sizeOf3
 v3:=Tryz.zeroValue3
 t4:=Tryz.underlying4
 a4:=Tryz.isAgg4
 z4:=Tryz.sizeOf4
 v4:=Tryz.zeroValue4
 t5:=Tryz.underlying5
 a5:=Tryz.isAgg5
 z5:=Tryz.sizeOf5
 v5:=Tryz.zeroValue5
 t9:=Tryz.underlying9
 a9:=Tryz.isAgg9
 z9:=Tryz.sizeOf9
 v9:=Tryz.zeroValue9
 t20:=Tryz.underlying20
 a20:=Tryz.isAgg20
 z20:=Tryz.sizeOf20
 v20:=Tryz.zeroValue20
 t37:=Tryz.underlying137
 a37:=Tryz.isAgg137
 z37:=Tryz.sizeOf137
 v37:=Tryz.zeroValue137
 t46:=Tryz.underlying219
 a46:=Tryz.isAgg219
 z46:=Tryz.sizeOf219
 v46:=Tryz.zeroValue219
 t51:=Tryz.underlying264
 a51:=Tryz.isAgg264
 z51:=Tryz.sizeOf264
 v51:=Tryz.zeroValue264
 t53:=Tryz.underlying352
 a53:=Tryz.isAgg352
 z53:=Tryz.sizeOf352
 v53:=Tryz.zeroValue352
 t171:=Tryz.underlying351
 a171:=Tryz.isAgg351
 z171:=Tryz.sizeOf351
 v171:=Tryz.zeroValue351
 t173:=Tryz.underlying355
 a173:=Tryz.isAgg355
 z173:=Tryz.sizeOf355
 v173:=Tryz.zeroValue355
 t212:=Tryz.underlying370
 a212:=Tryz.isAgg370
 z212:=Tryz.sizeOf370
 v212:=Tryz.zeroValue370
 t213:=Tryz.underlying371
 a213:=Tryz.isAgg371
 z213:=Tryz.sizeOf371
 t232:=Tryz.underlying399
 a232:=Tryz.isAgg399
 z232:=Tryz.sizeOf399
 v232:=Tryz.zeroValue399
 t233:=Tryz.underlying400
 a233:=Tryz.isAgg400
 z233:=Tryz.sizeOf400
 v233:=Tryz.zeroValue400
 g17:=by kernel_rfl
 g18:=by kernel_rfl
 g19:=by kernel_rfl
 i0:=by kernel_rfl
 i2:=by kernel_rfl
 i3:=by kernel_rfl
 i4:=by kernel_rfl
 i5:=by kernel_rfl
 i9:=by kernel_rfl
 i20:=by kernel_rfl
 i37:=by kernel_rfl
 i46:=by kernel_rfl
 i51:=by kernel_rfl
 i53:=by kernel_rfl
 i171:=by kernel_rfl
 i173:=by kernel_rfl
 i212:=by kernel_rfl
 i232:=by kernel_rfl
 i233:=by kernel_rfl
 m17:=by kernel_rfl
 m18:=by kernel_rfl
 m19:=by kernel_rfl}
open Go.RowKit Go.Sort Go.Lib in
def Tryz.strconv_Itoa(n:Int)(h0: -9223372036854775808<=n)(h1:n<=9223372036854775807)(w:World)(aJ7:Lib.TabIs fP w "internal/strconv.uint64pow10" .u64 Lib.pow10Tab):
 Calls fP 170 #[.int .i64 n] w fun e w'=>e=.returned (.string ⟨(Lib.itoa n).toArray⟩)/\∃k os,w'=grow (w.drewN k) os:=Any.strconv_Itoa Tryz.aEG n h0 h1 w aJ7
end Go.Proofs
namespace Go.Abs
open Go.Proofs
def GX:Nat->lH->Int->Option Int
 |0,_,_=>none
 |_+1,a0,a1=>some (Lib.indexByte a0 (aIB a1))
def Pa:∀(n:Nat)(a0:lH)(a1:Int)(r:Int),GX n a0 a1=some r->N6 fP 143 [oa.enc a0,(oe .u8).enc a1] (fun v=>v=(oe .i64).enc r)
 |0,_,_,_,h=>by cases h
 |_+1,a0,a1,r,h=>by
  cases h;exact are (by kernel_rfl) (fun s c w=>Tryz.stringslite_IndexByte s c w) a0 a1
def strconv_Atoi:Nat->lH->Option (Int×Unit)
 |0,_=>none
 |_+1,a0=>bif decide (a0.length<=18)then(Lib.atoi a0).map fun n=>(n,())else none
def an2:∀(n:Nat)(a0:lH)(r:(Int×Unit)),strconv_Atoi n a0=some r->N6 fP 333 [oa.enc a0] (fun v=>v=(ty2 (oe .i64) aEs).enc r)
 |0,_,_,h=>by cases h
 |_+1,a0,r,h=>by
  simp only[strconv_Atoi]at h;cases h1:decide (a0.length<=18)with
  |false=>rw[h1]at h;cases h
  |true=>
   rw[h1,cond_true,Option.map_eq_some_iff]at h;obtain⟨m,hm,rfl⟩:=h;exact aEt (by kernel_rfl) (fun s n w a b=>Tryz.strconv_Atoi s n a b w) a0 m (of_decide_eq_true h1) hm
def strconv_Itoa:Nat->Int->Option lH
 |0,_=>none
 |_+1,a0=>bif decide (0<=a0)&&decide (a0<=9223372036854775807)then some (Lib.itoa a0)else none
def Nz:∀(n:Nat)(a0:Int)(r:lH),strconv_Itoa n a0=some r->N6 fP 170 [(oe .i64).enc a0] (fun v=>v=oa.enc r)
 |0,_,_,h=>by cases h
 |_+1,a0,r,h=>by
  simp only[strconv_Itoa]at h;cases h1:decide (0<=a0)&&decide (a0<=9223372036854775807)with
  |false=>rw[h1]at h;cases h
  |true=>
   rw[h1,cond_true,fR] at h;subst h;rw[Bool.and_eq_true,decide_eq_true_eq,decide_eq_true_eq] at h1;exact aED (b:=3) (nm:= "internal/strconv.uint64pow10") (by kernel_rfl) rfl (by kernel_rfl) (by kernel_rfl) (fun n w a b c=>Tryz.strconv_Itoa n a b w c) a0 h1.1 h1.2
def tL:=(vV (EB (alS 141 0 (alA 1 (nu (nA k7.row) (nu p8 lX))))) (vV ogB Ex))
def xq:=(vV (EB (alS 141 0 (alA 1 (nu (nA k7.row) (nu p8 lX))))) (vV ogB Ex))
attribute [go_sem] tL xq
abbrev MT(F:(List k7)->Bool->lH->Option ((((List k7)×(Bool×Unit))×(lH×Unit))×(lH×Unit)))(b:(((List k7)×(Bool×Unit))×(lH×Unit)))(a:Unit):=F b.1.1 b.1.2.1 b.2.1
attribute [go_sem] MT
def MU(F:(List k7)->Bool->lH->Option ((((List k7)×(Bool×Unit))×(lH×Unit))×(lH×Unit))):=Im [.arg 0 [],.yj 0 1 []] tL (nC 0 lX) xq (nu oa lX) (MT F)
attribute [go_sem] MU
def Ir:Nat->(List k7)->Bool->lH->Option ((((List k7)×(Bool×Unit))×(lH×Unit))×(lH×Unit))
 |0,_,_,_=>none
 |_+1,o0,o1,o2=>some (((o0,o1,()),o2,()),(o2,()))
def YC:∀(n:Nat)(o0:(List k7))(o1:Bool)(o2:lH)(r:((((List k7)×(Bool×Unit))×(lH×Unit))×(lH×Unit))),Ir n o0 o1 o2=some r->FnG fP 72 ((nC 0 lX).enc (tL.nS ((o0,o1,()),o2,())) ()) (tL.enc (tL.nS ((o0,o1,()),o2,())) ((o0,o1,()),o2,())) (fun o H'=>o=.ret (vJ ((nu oa lX).enc (xq.nS r.1) r.2))/\H'=xq.enc (xq.nS r.1) r.1)
 |0,_,_,_,_,h=>by cases h
 |_+1,o0,o1,o2,r,h=>by
  cases h;exact azv (t127:=Tryz.agL.t 127) (by kernel_rfl) (by kernel_rfl) (by kernel_rfl) (fun b n cap base q s w w1 w2 c1 c2 h1 h2=>aB4 Tryz.aHB Tryz.aJ8 b n cap base q s w w1 w2 c1 c2 h1 h2) _ _ (sb o2) _ (SH _) (by have h:=(tL).nb ((tL).nS ((o0,o1,()),o2,())) ((o0,o1,()),o2,()) _ (List.mem_cons_self ..);exact⟨h.1,h.2.2⟩)
def qg:=(vV (EB (alS 141 0 (alA 1 (nu (nA k7.row) (nu p8 lX))))) (vV ogB Ex))
def vh:=(vV (EB (alS 141 0 (alA 1 (nu (nA k7.row) (nu p8 lX))))) (vV ogB Ex))
attribute [go_sem] qg vh
abbrev Km(F:(List k7)->Bool->lH->Option ((((List k7)×(Bool×Unit))×(lH×Unit))×Unit))(b:(((List k7)×(Bool×Unit))×(lH×Unit)))(a:Unit):=F b.1.1 b.1.2.1 b.2.1
attribute [go_sem] Km
def Kn(F:(List k7)->Bool->lH->Option ((((List k7)×(Bool×Unit))×(lH×Unit))×Unit)):=Im [.arg 0 [],.yj 0 1 []] qg (nC 0 lX) vh lX (Km F)
attribute [go_sem] Kn
def EF:Nat->(List k7)->Bool->lH->Option ((((List k7)×(Bool×Unit))×(lH×Unit))×Unit)
 |0,_,_,_=>none
 |_+1,o0,o1,o2=>some (((o0,o1,()),o2,()),())
def Vf:∀(n:Nat)(o0:(List k7))(o1:Bool)(o2:lH)(r:((((List k7)×(Bool×Unit))×(lH×Unit))×Unit)),EF n o0 o1 o2=some r->FnG fP 231 ((nC 0 lX).enc (qg.nS ((o0,o1,()),o2,())) ()) (qg.enc (qg.nS ((o0,o1,()),o2,())) ((o0,o1,()),o2,())) (fun o H'=>o=.ret (vJ (lX.enc (vh.nS r.1) r.2))/\H'=vh.enc (vh.nS r.1) r.1)
 |0,_,_,_,_,h=>by cases h
 |_+1,o0,o1,o2,r,h=>by
  cases h;exact arf (T:=141) (n:=4) (by kernel_rfl) (fun b w h=>atU Tryz.aAA (by kernel_rfl) b w h) (fun b w x y z=>atT Tryz.aAA (by kernel_rfl) (by kernel_rfl) (by decide) b w x y z) _ _ rfl (by have h:=(qg).nb ((qg).nS ((o0,o1,()),o2,())) ((o0,o1,()),o2,()) _ (List.mem_cons_self ..);exact h.2) (fun x hx=>by have h:=(qg).nb ((qg).nS ((o0,o1,()),o2,())) ((o0,o1,()),o2,()) x (List.mem_cons_of_mem _ hx);exact h)
def strings_Contains:Nat->lH->lH->Option Bool
 |0,_,_=>none
 |_+1,a0,a1=>bif decide (a0.length<4294967281)then some (Lib.contains a0 a1)else none
def Gh:∀(n:Nat)(a0 a1:lH)(r:Bool),strings_Contains n a0 a1=some r->N6 fP 12 [oa.enc a0,oa.enc a1] (fun v=>v=p8.enc r)
 |0,_,_,_,h=>by cases h
 |_+1,a0,a1,r,h=>by
  simp only[strings_Contains]at h;cases h1:decide (a0.length<4294967281)with
  |false=>rw[h1]at h;cases h
  |true=>
   rw[h1,cond_true,fR]at h;subst h;exact atK (g:=0) (by kernel_rfl) (.inl ⟨rfl,rfl⟩) (fun _ h=>h.1 rfl) (fun s sep m w a b=>Tryz.strings_Contains s sep m w a b) a0 a1 (of_decide_eq_true h1)
def strings_Cut:Nat->lH->lH->Option (lH×lH×Bool)
 |0,_,_=>none
 |_+1,a0,a1=>bif decide (a0.length<4294967281)then some (Lib.cut a0 a1)else none
def ap5:∀(n:Nat)(a0 a1:lH)(r:(lH×lH×Bool)),strings_Cut n a0 a1=some r->N6 fP 245 [oa.enc a0,oa.enc a1] (fun v=>v=(ty3 oa oa p8).enc r)
 |0,_,_,_,h=>by cases h
 |_+1,a0,a1,r,h=>by
  simp only[strings_Cut]at h;cases h1:decide (a0.length<4294967281)with
  |false=>rw[h1]at h;cases h
  |true=>
   rw[h1,cond_true,fR]at h;subst h;exact aHc (g:=0) (by kernel_rfl) (.inl ⟨rfl,rfl⟩) (fun _ h=>h.1 rfl) (fun s sep m w a b=>Tryz.strings_Cut s sep m w a b) a0 a1 (of_decide_eq_true h1)
def vX:Nat->lH->lH->Option Int
 |0,_,_=>none
 |_+1,a0,a1=>bif decide (2<=a1.length)&&(decide (8<a0.length)&&(decide (a0.length<4294967281)&&(decide (a1.length<4294967281)&&a1.all (fun b=>decide (b.toNat<128)))))then some (Lib.indexAny a0 a1)else none
def Uc:∀(n:Nat)(a0 a1:lH)(r:Int),vX n a0 a1=some r->N6 fP 242 [oa.enc a0,oa.enc a1] (fun v=>v=(oe .i64).enc r)
 |0,_,_,_,h=>by cases h
 |_+1,a0,a1,r,h=>by
  simp only[vX]at h;cases h1:decide (2<=a1.length)&&(decide (8<a0.length)&&(decide (a0.length<4294967281)&&(decide (a1.length<4294967281)&&a1.all (fun b=>decide (b.toNat<128)))))with
  |false=>rw[h1]at h;cases h
  |true=>
   rw[h1,cond_true,fR]at h;subst h;simp only[Bool.and_eq_true,decide_eq_true_eq,List.all_eq_true]at h1;obtain⟨h2,h8,h3,h4,h5⟩:=h1;exact atL (t:=337) (by kernel_rfl) (fun s c w a b c' d e=>(Tryz.strings_IndexAny_long (fun w=>by kernel_rfl) s c w a b c' d e).mono (fun _ _ h=>⟨h.1,_,_,h.2⟩)) a0 a1 h2 h8 h3 h4 h5
def strings_Join:Nat->List lH->lH->Option lH
 |0,_,_=>none
 |_+1,a0,a1=>bif decide ((Lib.join a0 a1).length<=140737488355328)&&decide (a0.length<=140737488355328)then some (Lib.join a0 a1)else none
def NA:∀(n:Nat)(a0:List lH)(a1:lH)(r:lH),strings_Join n a0 a1=some r->N6 fP 260 [(nA mJ).enc a0,oa.enc a1] (fun v=>v=oa.enc r)
 |0,_,_,_,h=>by cases h
 |_+1,a0,a1,r,h=>by
  simp only[strings_Join]at h;cases h1:decide ((Lib.join a0 a1).length<=140737488355328)&&decide (a0.length<=140737488355328)with
  |false=>rw[h1]at h;cases h
  |true=>
   rw[h1,cond_true,fR]at h;subst h;rw[Bool.and_eq_true,decide_eq_true_eq,decide_eq_true_eq]at h1;exact aD7 (by kernel_rfl) (fun a c sep w=>Tryz.strings_Join_none a c sep w) (fun bk o c xs sep w a b d e f=>Tryz.strings_Join bk o c xs sep w a b d e f) a0 a1 h1.1 h1.2
end Go.Abs
end
