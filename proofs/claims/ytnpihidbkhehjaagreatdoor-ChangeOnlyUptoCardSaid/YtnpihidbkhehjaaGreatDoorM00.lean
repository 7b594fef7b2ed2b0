/- ChangeOnly of kingpostlaw58: part 0 of its proof (merged and shortened by program). -/
import Derived.Shelf.Strings.Builder1
import Derived.Shelf.Strings.Builder2
import Derived.Shelf.Strings.Trim
import Derived.Shelf.Small.Utf8
import Derived.Shelf.Small.Strs
import Derived.Shelf.Small.Wraps
import Derived.Shelf.Strings.BuilderF
import Derived.Shelf.Strings.BuilderK
import Derived.Shelf.Strconv.Atoi
import Derived.Shelf.Strconv.Itoa0
import Derived.Shelf.Strconv.Itoa1
import Derived.Shelf.LaysM
import Derived.Shelf.Strconv.Itoa2
import Derived.Shelf.Strconv.Itoa3
import Derived.Shelf.Strconv.AtoiErrFast
import Derived.Shelf.Strconv.ParseIntEmpty
import Derived.Shelf.Strconv.AtoiFail
import Derived.Shelf.Strconv.Clone
import Derived.Shelf.Strconv.SyntaxError
import Derived.Shelf.LaysC
import Derived.Shelf.Strconv.ToError
import Derived.Shelf.Strconv.Lower
import Derived.Shelf.Strconv.ParseUint10
import Derived.Shelf.Strconv.ParseUint10Empty
import Derived.Shelf.Strconv.ParseUint10Any
import Derived.Shelf.Strconv.ParseInt10
import Derived.Shelf.Strconv.AtoiLong
import Derived.Shelf.Strconv.AtoiInnerAll
import Derived.Shelf.Strconv.RangeError
import Derived.Shelf.Strconv.ToErrorRange
import Derived.Shelf.Strconv.AtoiAll
import Derived.Shelf.Strconv.ErrVarAll
import Derived.Shelf.Strings.Search1
import Derived.Shelf.Strings.Search2
import Derived.Shelf.Strings.Search3
import Derived.Shelf.Strings.Cut
import Derived.Shelf.Strings.Count
import Derived.Shelf.Strings.Shaped
import Derived.Shelf.Strings.Prefix
import Derived.Shelf.Strings.Split
import Derived.Shelf.Strings.SplitShaped
import Derived.Shelf.Strings.Runes
import Derived.Shelf.Strings.AsciiSet
import Derived.Shelf.Bits.Mul64
import Derived.Shelf.Strings.Repeat
import Derived.Shelf.Unicode.DecodeSlow
import Derived.Shelf.Slices.Turned
import Derived.Shelf.Slices.Reverse
import Derived.Shelf.Slices.Equal
import Derived.Ground.Names2Prog
import Derived.Shelf.Slices.Clone
import Derived.Shelf.Slices.SearchI
import Derived.Shelf.Slices.Delete
import Derived.Shelf.Slices.Cells
import Derived.Shelf.Slices.Empties
import Derived.Shelf.Slices.Empties2
import Derived.Test.YtnpihidbkhehjaaGreatDoorProg
set_option linter.unusedVariables false
set_option linter.unusedSimpArgs false
set_option linter.defProp false
set_option maxHeartbeats 8000000
set_option maxRecDepth 100000
namespace Go.Proofs
def Tryz.yg:Go.Shelf.Ren:=⟨fun|160=>319|232=>330|231=>329|227=>331|234=>333|233=>332|236=>335|235=>334|228=>338|271=>340|151=>339|197=>217|120=>345|152=>344|260=>241|137=>347|119=>348|224=>244|225=>243|217=>242|266=>278|n=>n,fun|9=>9|4=>4|3=>3|5=>5|117=>357|116=>356|0=>0|124=>360|21=>21|105=>253|46=>228|119=>311|139=>314|138=>313|n=>n,fun|3=>2|4=>3|n=>n⟩
theorem Tryz.GU:Go.Proofs.Lays.n160 Tryz.prog Tryz.yg:={
 mixed:=by kernel_rfl
 f119:=Tryz.func348.trans (congrArg some (by kernel_rfl))
 f120:=Tryz.func345.trans (congrArg some (by kernel_rfl))
 f137:=Tryz.func347.trans (congrArg some (by kernel_rfl))
 f151:=Tryz.func339.trans (congrArg some (by kernel_rfl))
 f152:=Tryz.func344.trans (congrArg some (by kernel_rfl))
 f160:=Tryz.func319.trans (congrArg some (by kernel_rfl))
 f197:=Tryz.func217.trans (congrArg some (by kernel_rfl))
 f217:=Tryz.func242.trans (congrArg some (by kernel_rfl))
 f224:=Tryz.func244.trans (congrArg some (by kernel_rfl))
 f225:=Tryz.func243.trans (congrArg some (by kernel_rfl))
 f227:=Tryz.func331.trans (congrArg some (by kernel_rfl))
 f228:=Tryz.func338.trans (congrArg some (by kernel_rfl))
 f231:=Tryz.func329.trans (congrArg some (by kernel_rfl))
 f232:=Tryz.func330.trans (congrArg some (by kernel_rfl))
 f233:=Tryz.func332.trans (congrArg some (by kernel_rfl))
 f234:=Tryz.func333.trans (congrArg some (by kernel_rfl))
 f235:=Tryz.func334.trans (congrArg some (by kernel_rfl))
 f236:=Tryz.func335.trans (congrArg some (by kernel_rfl))
 f260:=Tryz.func241.trans (congrArg some (by kernel_rfl))
 f266:=Tryz.func278.trans (congrArg some (by kernel_rfl))
 f271:=Tryz.func340.trans (congrArg some (by kernel_rfl))
 t0:=Tryz.underlying0
 a0:=Tryz.isAgg0
 z0:=Tryz.sizeOf0
 v0:=Tryz.zeroValue0
 t3:=Tryz.underlying3
 a3:=Tryz.isAgg3
 z3:=Tryz.sizeOf3
 v3:=Tryz.zeroValue3
 t4:=Tryz.underlying4
 a4:=Tryz.isAgg4
 z4:=Tryz.sizeOf4
 v4:=Tryz.zeroValue4
 t5:=Tryz.underlying5
 a5:=Tryz.isAgg5
 z5:=Tryz.sizeOf5
 v5:=Tryz.zeroValue5
 t9:=Tryz.underlying9
 a9:=Tryz.isAgg9
 z9:=Tryz.sizeOf9
 v9:=Tryz.zeroValue9
 t21:=Tryz.underlying21
 a21:=Tryz.isAgg21
 z21:=Tryz.sizeOf21
 v21:=Tryz.zeroValue21
 t46:=Tryz.underlying228
 a46:=Tryz.isAgg228
 z46:=Tryz.sizeOf228
 v46:=Tryz.zeroValue228
 t105:=Tryz.underlying253
 a105:=Tryz.isAgg253
 z105:=Tryz.sizeOf253
 v105:=Tryz.zeroValue253
 t116:=Tryz.underlying356
 a116:=Tryz.isAgg356
 z116:=Tryz.sizeOf356
 t117:=Tryz.underlying357
 a117:=Tryz.isAgg357
 z117:=Tryz.sizeOf357
 v117:=Tryz.zeroValue357
 t119:=Tryz.underlying311
 a119:=Tryz.isAgg311
 z119:=Tryz.sizeOf311
 t124:=Tryz.underlying360
 a124:=Tryz.isAgg360
 z124:=Tryz.sizeOf360
 v124:=Tryz.zeroValue360
 t138:=Tryz.underlying313
 a138:=Tryz.isAgg313
 z138:=Tryz.sizeOf313
 v138:=Tryz.zeroValue313
 t139:=Tryz.underlying314
 a139:=Tryz.isAgg314
 z139:=Tryz.sizeOf314
 v139:=Tryz.zeroValue314
 g3:=by kernel_rfl
 g4:=by kernel_rfl}
def Tryz.wY:Go.Shelf.Ren:=⟨fun|103=>256|210=>286|206=>207|n=>n,fun|9=>9|4=>4|24=>102|3=>3|n=>n,fun|n=>n⟩
theorem Tryz.GK:Go.Proofs.Lays.n103 Tryz.prog Tryz.wY:={
 mixed:=by kernel_rfl
 f103:=Tryz.func256.trans (congrArg some (by kernel_rfl))
 f206:=Tryz.func207.trans (congrArg some (by kernel_rfl))
 f210:=Tryz.func286.trans (congrArg some (by kernel_rfl))
 t3:=Tryz.underlying3
 a3:=Tryz.isAgg3
 z3:=Tryz.sizeOf3
 v3:=Tryz.zeroValue3
 t4:=Tryz.underlying4
 a4:=Tryz.isAgg4
 z4:=Tryz.sizeOf4
 v4:=Tryz.zeroValue4
 t9:=Tryz.underlying9
 a9:=Tryz.isAgg9
 z9:=Tryz.sizeOf9
 v9:=Tryz.zeroValue9
 t24:=Tryz.underlying102
 a24:=Tryz.isAgg102
 z24:=Tryz.sizeOf102
 v24:=Tryz.zeroValue102}
open Go.RowKit in
theorem Tryz.strings_CutPrefix(s p:ByteArray)(w:World):
  Calls Tryz.prog 256 #[.string s,.string p] w fun e w'=>e= .returned (.tuple #[.string ⟨(Lib.trimPrefix s.data.toList p.data.toList).toArray⟩,.bool (Lib.hasPrefix s.data.toList p.data.toList)])∧w'=w:=Any.strings_CutPrefix Tryz.GK s p w
def Tryz.vL:Go.Shelf.Ren:=⟨fun|122=>191|215=>222|n=>n,fun|3=>3|4=>4|n=>n,fun|n=>n⟩
theorem Tryz.Ha:Go.Proofs.Lays.n122 Tryz.prog Tryz.vL:={
 mixed:=by kernel_rfl
 f122:=Tryz.func191.trans (congrArg some (by kernel_rfl))
 f215:=Tryz.func222.trans (congrArg some (by kernel_rfl))
 t3:=Tryz.underlying3
 a3:=Tryz.isAgg3
 z3:=Tryz.sizeOf3
 v3:=Tryz.zeroValue3
 t4:=Tryz.underlying4
 a4:=Tryz.isAgg4
 z4:=Tryz.sizeOf4
 v4:=Tryz.zeroValue4}
open Go.RowKit in
theorem Tryz.cmp_Compare_int(x y:Int)(w:World):
  Calls Tryz.prog 191 #[.int .i64 x,.int .i64 y] w fun e w'=>e= .returned (.int .i64 (Lib.compareInt x y))∧w'=w:=Any.cmp_Compare_int Tryz.Ha x y w
def Tryz.yc:Go.Shelf.Ren:=⟨fun|172=>185|244=>220|245=>221|247=>246|279=>247|280=>248|281=>249|282=>250|287=>280|316=>281|171=>181|205=>282|321=>314|322=>315|243=>215|246=>240|283=>274|284=>275|285=>276|286=>277|129=>310|317=>309|318=>311|319=>312|320=>313|337=>327|338=>328|n=>n,fun|9=>9|3=>3|75=>220|76=>222|4=>4|5=>5|167=>273|37=>108|0=>0|85=>274|2=>2|168=>276|53=>306|175=>318|46=>228|210=>322|127=>152|145=>348|143=>346|21=>21|171=>305|173=>309|212=>342|51=>315|20=>20|213=>343|232=>364|233=>365|80=>114|n=>n,fun|15=>4|16=>5|17=>6|18=>7|19=>8|n=>n⟩
theorem Tryz.GL:Go.Proofs.Lays.n172 Tryz.prog Tryz.yc:={
 mixed:=by kernel_rfl
 f129:=Tryz.func310.trans (congrArg some (by kernel_rfl))
 f171:=Tryz.func181.trans (congrArg some (by kernel_rfl))
 f172:=Tryz.func185.trans (congrArg some (by kernel_rfl))
 f205:=Tryz.func282.trans (congrArg some (by kernel_rfl))
 f243:=Tryz.func215.trans (congrArg some (by kernel_rfl))
 f244:=Tryz.func220.trans (congrArg some (by kernel_rfl))
 f245:=Tryz.func221.trans (congrArg some (by kernel_rfl))
 f246:=Tryz.func240.trans (congrArg some (by kernel_rfl))
 f247:=Tryz.func246.trans (congrArg some (by kernel_rfl))
 f279:=Tryz.func247.trans (congrArg some (by kernel_rfl))
 f280:=Tryz.func248.trans (congrArg some (by kernel_rfl))
 f281:=Tryz.func249.trans (congrArg some (by kernel_rfl))
 f282:=Tryz.func250.trans (congrArg some (by kernel_rfl))
 f283:=Tryz.func274.trans (congrArg some (by kernel_rfl))
 f284:=Tryz.func275.trans (congrArg some (by kernel_rfl))
 f285:=Tryz.func276.trans (congrArg some (by kernel_rfl))
 f286:=Tryz.func277.trans (congrArg some (by kernel_rfl))
 f287:=Tryz.func280.trans (congrArg some (by kernel_rfl))
 f316:=Tryz.func281.trans (congrArg some (by kernel_rfl))
 f317:=Tryz.func309.trans (congrArg some (by kernel_rfl))
 f318:=Tryz.func311.trans (congrArg some (by kernel_rfl))
 f319:=Tryz.func312.trans (congrArg some (by kernel_rfl))
 f320:=Tryz.func313.trans (congrArg some (by kernel_rfl))
 f321:=Tryz.func314.trans (congrArg some (by kernel_rfl))
 f322:=Tryz.func315.trans (congrArg some (by kernel_rfl))
 f337:=Tryz.func327.trans (congrArg some (by kernel_rfl))
 f338:=Tryz.func328.trans (congrArg some (by kernel_rfl))
 t0:=Tryz.underlying0
 a0:=Tryz.isAgg0
 z0:=Tryz.sizeOf0
 v0:=Tryz.zeroValue0
 t2:=Tryz.underlying2
 a2:=Tryz.isAgg2
 z2:=Tryz.sizeOf2
 v2:=Tryz.zeroValue2
 t3:=Tryz.underlying3
 a3:=Tryz.isAgg3
 z3:=Tryz.sizeOf3
 v3:=Tryz.zeroValue3
 t4:=Tryz.underlying4
 a4:=Tryz.isAgg4
 z4:=Tryz.sizeOf4
 v4:=Tryz.zeroValue4
 t5:=Tryz.underlying5
 a5:=Tryz.isAgg5
 z5:=Tryz.sizeOf5
 v5:=Tryz.zeroValue5
 t9:=Tryz.underlying9
 a9:=Tryz.isAgg9
 z9:=Tryz.sizeOf9
 v9:=Tryz.zeroValue9
 t20:=Tryz.underlying20
 a20:=Tryz.isAgg20
 z20:=Tryz.sizeOf20
 v20:=Tryz.zeroValue20
 t21:=Tryz.underlying21
 a21:=Tryz.isAgg21
 z21:=Tryz.sizeOf21
 v21:=Tryz.zeroValue21
 t37:=Tryz.underlying108
 a37:=Tryz.isAgg108
 z37:=Tryz.sizeOf108
 v37:=Tryz.zeroValue108
 t46:=Tryz.underlying228
 a46:=Tryz.isAgg228
 z46:=Tryz.sizeOf228
 v46:=Tryz.zeroValue228
 t51:=Tryz.underlying315
 a51:=Tryz.isAgg315
 z51:=Tryz.sizeOf315
 v51:=Tryz.zeroValue315
 t53:=Tryz.underlying306
 a53:=Tryz.isAgg306
 z53:=Tryz.sizeOf306
 v53:=Tryz.zeroValue306
 t75:=Tryz.underlying220
 a75:=Tryz.isAgg220
 z75:=Tryz.sizeOf220
 v75:=Tryz.zeroValue220
 t76:=Tryz.underlying222
 a76:=Tryz.isAgg222
 z76:=Tryz.sizeOf222
 v76:=Tryz.zeroValue222
 t85:=Tryz.underlying274
 a85:=Tryz.isAgg274
 z85:=Tryz.sizeOf274
 v85:=Tryz.zeroValue274
 t127:=Tryz.underlying152
 a127:=Tryz.isAgg152
 z127:=Tryz.sizeOf152
 v127:=Tryz.zeroValue152
 t143:=Tryz.underlying346
 a143:=Tryz.isAgg346
 z143:=Tryz.sizeOf346
 v143:=Tryz.zeroValue346
 t145:=Tryz.underlying348
 a145:=Tryz.isAgg348
 z145:=Tryz.sizeOf348
 v145:=Tryz.zeroValue348
 t167:=Tryz.underlying273
 a167:=Tryz.isAgg273
 z167:=Tryz.sizeOf273
 v167:=Tryz.zeroValue273
 t168:=Tryz.underlying276
 a168:=Tryz.isAgg276
 z168:=Tryz.sizeOf276
 v168:=Tryz.zeroValue276
 t171:=Tryz.underlying305
 a171:=Tryz.isAgg305
 z171:=Tryz.sizeOf305
 v171:=Tryz.zeroValue305
 t173:=Tryz.underlying309
 a173:=Tryz.isAgg309
 z173:=Tryz.sizeOf309
 v173:=Tryz.zeroValue309
 t175:=Tryz.underlying318
 a175:=Tryz.isAgg318
 z175:=Tryz.sizeOf318
 v175:=Tryz.zeroValue318
 t210:=Tryz.underlying322
 a210:=Tryz.isAgg322
 z210:=Tryz.sizeOf322
 v210:=Tryz.zeroValue322
 t212:=Tryz.underlying342
 a212:=Tryz.isAgg342
 z212:=Tryz.sizeOf342
 v212:=Tryz.zeroValue342
 t213:=Tryz.underlying343
 a213:=Tryz.isAgg343
 z213:=Tryz.sizeOf343
 t232:=Tryz.underlying364
 a232:=Tryz.isAgg364
 z232:=Tryz.sizeOf364
 v232:=Tryz.zeroValue364
 t233:=Tryz.underlying365
 a233:=Tryz.isAgg365
 z233:=Tryz.sizeOf365
 v233:=Tryz.zeroValue365
 g15:=by kernel_rfl
 g16:=by kernel_rfl
 g17:=by kernel_rfl
 g18:=by kernel_rfl
 g19:=by kernel_rfl}
open Go.RowKit in
theorem Tryz.strconv_Atoi(s:ByteArray)(n:Int)(hl:s.size≤18)(h:Lib.atoi s.data.toList=some n)(w:World):
  Calls Tryz.prog 185 #[.string s] w fun e w'=>e= .returned (.tuple #[.int .i64 n,.nilIface])∧∃t,w'=Lib.bytesWorld w 5 t:=Any.strconv_Atoi Tryz.GL s n hl h w
def Tryz.tU:Go.Shelf.Ren:=⟨fun|171=>181|243=>215|246=>240|283=>274|284=>275|285=>276|286=>277|129=>310|317=>309|318=>311|319=>312|320=>313|337=>327|338=>328|n=>n,fun|3=>3|9=>9|2=>2|4=>4|171=>305|0=>0|53=>306|37=>108|5=>5|173=>309|212=>342|51=>315|20=>20|213=>343|46=>228|232=>364|233=>365|n=>n,fun|17=>6|18=>7|19=>8|n=>n⟩
theorem Tryz.Fl:Go.Proofs.LaysM.n171 Tryz.prog Tryz.tU:={
 mixed:=by kernel_rfl
 f129:=Tryz.func310.trans (congrArg some (by kernel_rfl))
 f171:=Tryz.func181.trans (congrArg some (by kernel_rfl))
 f243:=Tryz.func215.trans (congrArg some (by kernel_rfl))
 f246:=Tryz.func240.trans (congrArg some (by kernel_rfl))
 f283:=Tryz.func274.trans (congrArg some (by kernel_rfl))
 f284:=Tryz.func275.trans (congrArg some (by kernel_rfl))
 f285:=Tryz.func276.trans (congrArg some (by kernel_rfl))
 f286:=Tryz.func277.trans (congrArg some (by kernel_rfl))
 f317:=Tryz.func309.trans (congrArg some (by kernel_rfl))
 f318:=Tryz.func311.trans (congrArg some (by kernel_rfl))
 f319:=Tryz.func312.trans (congrArg some (by kernel_rfl))
 f320:=Tryz.func313.trans (congrArg some (by kernel_rfl))
 f337:=Tryz.func327.trans (congrArg some (by kernel_rfl))
 f338:=Tryz.func328.trans (congrArg some (by kernel_rfl))
 t0:=Tryz.underlying0
 a0:=Tryz.isAgg0
 z0:=Tryz.sizeOf0
 v0:=Tryz.zeroValue0
 t2:=Tryz.underlying2
 a2:=Tryz.isAgg2
 z2:=Tryz.sizeOf2
 v2:=Tryz.zeroValue2
 t3:=Tryz.underlying3
 a3:=Tryz.isAgg3
 z3:=Tryz.sizeOf3
 v3:=Tryz.zeroValue3
 t4:=Tryz.underlying4
 a4:=Tryz.isAgg4
 z4:=Tryz.sizeOf4
 v4:=Tryz.zeroValue4
 t5:=Tryz.underlying5
 a5:=Tryz.isAgg5
 z5:=Tryz.sizeOf5
 v5:=Tryz.zeroValue5
 t9:=Tryz.underlying9
 a9:=Tryz.isAgg9
 z9:=Tryz.sizeOf9
 v9:=Tryz.zeroValue9
 t20:=Tryz.underlying20
 a20:=Tryz.isAgg20
 z20:=Tryz.sizeOf20
 v20:=Tryz.zeroValue20
 t37:=Tryz.underlying108
 a37:=Tryz.isAgg108
 z37:=Tryz.sizeOf108
 v37:=Tryz.zeroValue108
 t46:=Tryz.underlying228
 a46:=Tryz.isAgg228
 z46:=Tryz.sizeOf228
 v46:=Tryz.zeroValue228
 t51:=Tryz.underlying315
 a51:=Tryz.isAgg315
 z51:=Tryz.sizeOf315
 v51:=Tryz.zeroValue315
 t53:=Tryz.underlying306
 a53:=Tryz.isAgg306
 z53:=Tryz.sizeOf306
 v53:=Tryz.zeroValue306
 t171:=Tryz.underlying305
 a171:=Tryz.isAgg305
 z171:=Tryz.sizeOf305
 v171:=Tryz.zeroValue305
 t173:=Tryz.underlying309
 a173:=Tryz.isAgg309
 z173:=Tryz.sizeOf309
 v173:=Tryz.zeroValue309
 t212:=Tryz.underlying342
 a212:=Tryz.isAgg342
 z212:=Tryz.sizeOf342
 v212:=Tryz.zeroValue342
 t213:=Tryz.underlying343
 a213:=Tryz.isAgg343
 z213:=Tryz.sizeOf343
 t232:=Tryz.underlying364
 a232:=Tryz.isAgg364
 z232:=Tryz.sizeOf364
 v232:=Tryz.zeroValue364
 t233:=Tryz.underlying365
 a233:=Tryz.isAgg365
 z233:=Tryz.sizeOf365
 v233:=Tryz.zeroValue365
 g17:=by kernel_rfl
 g18:=by kernel_rfl
 g19:=by kernel_rfl
 i0:=by kernel_rfl
 i2:=by kernel_rfl
 i3:=by kernel_rfl
 i4:=by kernel_rfl
 i5:=by kernel_rfl
 i9:=by kernel_rfl
 i20:=by kernel_rfl
 i37:=by kernel_rfl
 i46:=by kernel_rfl
 i51:=by kernel_rfl
 i53:=by kernel_rfl
 i171:=by kernel_rfl
 i173:=by kernel_rfl
 i212:=by kernel_rfl
 i232:=by kernel_rfl
 i233:=by kernel_rfl
 m17:=by kernel_rfl
 m18:=by kernel_rfl
 m19:=by kernel_rfl}
open Go.RowKit Go.Sort Go.Lib in
theorem Tryz.strconv_Itoa(n:Int)(h0: -9223372036854775808≤n)(h1:n≤9223372036854775807)(w:World)(htab:Lib.TabIs Tryz.prog w "internal/strconv.uint64pow10" .u64 Lib.pow10Tab):
  Calls Tryz.prog 181 #[.int .i64 n] w fun e w'=>e= .returned (.string ⟨(Lib.itoa n).toArray⟩)∧∃k os,w'=grow (w.drewN k) os:=Any.strconv_Itoa Tryz.Fl n h0 h1 w htab
def Tryz.uB:Go.Shelf.Ren:=⟨fun|172=>185|244=>220|245=>221|247=>246|279=>247|280=>248|281=>249|282=>250|287=>280|316=>281|171=>181|205=>282|321=>314|322=>315|243=>215|246=>240|283=>274|284=>275|285=>276|286=>277|129=>310|317=>309|318=>311|319=>312|320=>313|337=>327|338=>328|n=>n,fun|9=>9|3=>3|75=>220|76=>222|4=>4|5=>5|167=>273|37=>108|0=>0|85=>274|2=>2|168=>276|53=>306|175=>318|46=>228|210=>322|127=>152|145=>348|143=>346|21=>21|171=>305|173=>309|212=>342|51=>315|20=>20|213=>343|232=>364|233=>365|80=>114|n=>n,fun|15=>4|16=>5|17=>6|18=>7|19=>8|n=>n⟩
theorem Tryz.pB:Go.Proofs.LaysC.n172 Tryz.prog Tryz.uB:={
 mixed:=by kernel_rfl
 f129:=Tryz.func310.trans (congrArg some (by kernel_rfl))
 f171:=Tryz.func181.trans (congrArg some (by kernel_rfl))
 f172:=Tryz.func185.trans (congrArg some (by kernel_rfl))
 f205:=Tryz.func282.trans (congrArg some (by kernel_rfl))
 f243:=Tryz.func215.trans (congrArg some (by kernel_rfl))
 f244:=Tryz.func220.trans (congrArg some (by kernel_rfl))
 f245:=Tryz.func221.trans (congrArg some (by kernel_rfl))
 f246:=Tryz.func240.trans (congrArg some (by kernel_rfl))
 f247:=Tryz.func246.trans (congrArg some (by kernel_rfl))
 f279:=Tryz.func247.trans (congrArg some (by kernel_rfl))
 f280:=Tryz.func248.trans (congrArg some (by kernel_rfl))
 f281:=Tryz.func249.trans (congrArg some (by kernel_rfl))
 f282:=Tryz.func250.trans (congrArg some (by kernel_rfl))
 f283:=Tryz.func274.trans (congrArg some (by kernel_rfl))
 f284:=Tryz.func275.trans (congrArg some (by kernel_rfl))
 f285:=Tryz.func276.trans (congrArg some (by kernel_rfl))
 f286:=Tryz.func277.trans (congrArg some (by kernel_rfl))
 f287:=Tryz.func280.trans (congrArg some (by kernel_rfl))
 f316:=Tryz.func281.trans (congrArg some (by kernel_rfl))
 f317:=Tryz.func309.trans (congrArg some (by kernel_rfl))
 f318:=Tryz.func311.trans (congrArg some (by kernel_rfl))
 f319:=Tryz.func312.trans (congrArg some (by kernel_rfl))
 f320:=Tryz.func313.trans (congrArg some (by kernel_rfl))
 f321:=Tryz.func314.trans (congrArg some (by kernel_rfl))
 f322:=Tryz.func315.trans (congrArg some (by kernel_rfl))
 f337:=Tryz.func327.trans (congrArg some (by kernel_rfl))
 f338:=Tryz.func328.trans (congrArg some (by kernel_rfl))
 t0:=Tryz.underlying0
 a0:=Tryz.isAgg0
 z0:=Tryz.sizeOf0
 v0:=Tryz.zeroValue0
 t2:=Tryz.underlying2
 a2:=Tryz.isAgg2
 z2:=Tryz.sizeOf2
 v2:=Tryz.zeroValue2
 t3:=Tryz.underlying3
 a3:=Tryz.isAgg3
 z3:=Tryz.sizeOf3
 v3:=Tryz.zeroValue3
 t4:=Tryz.underlying4
 a4:=Tryz.isAgg4
 z4:=Tryz.sizeOf4
 v4:=Tryz.zeroValue4
 t5:=Tryz.underlying5
 a5:=Tryz.isAgg5
 z5:=Tryz.sizeOf5
 v5:=Tryz.zeroValue5
 t9:=Tryz.underlying9
 a9:=Tryz.isAgg9
 z9:=Tryz.sizeOf9
 v9:=Tryz.zeroValue9
 t20:=Tryz.underlying20
 a20:=Tryz.isAgg20
 z20:=Tryz.sizeOf20
 v20:=Tryz.zeroValue20
 t21:=Tryz.underlying21
 a21:=Tryz.isAgg21
 z21:=Tryz.sizeOf21
 v21:=Tryz.zeroValue21
 t37:=Tryz.underlying108
 a37:=Tryz.isAgg108
 z37:=Tryz.sizeOf108
 v37:=Tryz.zeroValue108
 t46:=Tryz.underlying228
 a46:=Tryz.isAgg228
 z46:=Tryz.sizeOf228
 v46:=Tryz.zeroValue228
 t51:=Tryz.underlying315
 a51:=Tryz.isAgg315
 z51:=Tryz.sizeOf315
 v51:=Tryz.zeroValue315
 t53:=Tryz.underlying306
 a53:=Tryz.isAgg306
 z53:=Tryz.sizeOf306
 v53:=Tryz.zeroValue306
 t75:=Tryz.underlying220
 a75:=Tryz.isAgg220
 z75:=Tryz.sizeOf220
 v75:=Tryz.zeroValue220
 t76:=Tryz.underlying222
 a76:=Tryz.isAgg222
 z76:=Tryz.sizeOf222
 v76:=Tryz.zeroValue222
 t85:=Tryz.underlying274
 a85:=Tryz.isAgg274
 z85:=Tryz.sizeOf274
 v85:=Tryz.zeroValue274
 t127:=Tryz.underlying152
 a127:=Tryz.isAgg152
 z127:=Tryz.sizeOf152
 v127:=Tryz.zeroValue152
 t143:=Tryz.underlying346
 a143:=Tryz.isAgg346
 z143:=Tryz.sizeOf346
 v143:=Tryz.zeroValue346
 t145:=Tryz.underlying348
 a145:=Tryz.isAgg348
 z145:=Tryz.sizeOf348
 v145:=Tryz.zeroValue348
 t167:=Tryz.underlying273
 a167:=Tryz.isAgg273
 z167:=Tryz.sizeOf273
 v167:=Tryz.zeroValue273
 t168:=Tryz.underlying276
 a168:=Tryz.isAgg276
 z168:=Tryz.sizeOf276
 v168:=Tryz.zeroValue276
 t171:=Tryz.underlying305
 a171:=Tryz.isAgg305
 z171:=Tryz.sizeOf305
 v171:=Tryz.zeroValue305
 t173:=Tryz.underlying309
 a173:=Tryz.isAgg309
 z173:=Tryz.sizeOf309
 v173:=Tryz.zeroValue309
 t175:=Tryz.underlying318
 a175:=Tryz.isAgg318
 z175:=Tryz.sizeOf318
 v175:=Tryz.zeroValue318
 t210:=Tryz.underlying322
 a210:=Tryz.isAgg322
 z210:=Tryz.sizeOf322
 v210:=Tryz.zeroValue322
 t212:=Tryz.underlying342
 a212:=Tryz.isAgg342
 z212:=Tryz.sizeOf342
 v212:=Tryz.zeroValue342
 t213:=Tryz.underlying343
 a213:=Tryz.isAgg343
 z213:=Tryz.sizeOf343
 t232:=Tryz.underlying364
 a232:=Tryz.isAgg364
 z232:=Tryz.sizeOf364
 v232:=Tryz.zeroValue364
 t233:=Tryz.underlying365
 a233:=Tryz.isAgg365
 z233:=Tryz.sizeOf365
 v233:=Tryz.zeroValue365
 g15:=by kernel_rfl
 g16:=by kernel_rfl
 g17:=by kernel_rfl
 g18:=by kernel_rfl
 g19:=by kernel_rfl
 t80:=Tryz.underlying114
 a80:=Tryz.isAgg114
 z80:=Tryz.sizeOf114
 v80:=Tryz.zeroValue114
 i0:=by kernel_rfl
 i2:=by kernel_rfl
 i3:=by kernel_rfl
 i4:=by kernel_rfl
 i5:=by kernel_rfl
 i9:=by kernel_rfl
 i20:=by kernel_rfl
 i21:=by kernel_rfl
 i37:=by kernel_rfl
 i46:=by kernel_rfl
 i51:=by kernel_rfl
 i53:=by kernel_rfl
 i75:=by kernel_rfl
 i76:=by kernel_rfl
 i80:=by kernel_rfl
 i85:=by kernel_rfl
 i127:=by kernel_rfl
 i143:=by kernel_rfl
 i145:=by kernel_rfl
 i167:=by kernel_rfl
 i168:=by kernel_rfl
 i171:=by kernel_rfl
 i173:=by kernel_rfl
 i175:=by kernel_rfl
 i210:=by kernel_rfl
 i212:=by kernel_rfl
 i232:=by kernel_rfl
 i233:=by kernel_rfl
 m15:=by kernel_rfl
 m16:=by kernel_rfl
 m17:=by kernel_rfl
 m18:=by kernel_rfl
 m19:=by kernel_rfl
 c0:=by kernel_rfl
 c2:=by kernel_rfl
 c3:=by kernel_rfl
 c4:=by kernel_rfl
 c5:=by kernel_rfl
 c9:=by kernel_rfl
 c20:=by kernel_rfl
 c21:=by kernel_rfl
 c37:=by kernel_rfl
 c46:=by kernel_rfl
 c51:=by kernel_rfl
 c53:=by kernel_rfl
 c75:=by kernel_rfl
 c76:=by kernel_rfl
 c80:=by kernel_rfl
 c85:=by kernel_rfl
 c127:=by kernel_rfl
 c143:=by kernel_rfl
 c145:=by kernel_rfl
 c167:=by kernel_rfl
 c168:=by kernel_rfl
 c171:=by kernel_rfl
 c173:=by kernel_rfl
 c175:=by kernel_rfl
 c210:=by kernel_rfl
 c212:=by kernel_rfl
 c213:=by kernel_rfl
 c232:=by kernel_rfl
 c233:=by kernel_rfl}
open Go.RowKit in
theorem Tryz.strconv_Atoi_ok(s:ByteArray)(hmax:s.size≤9223372036854775806)(v:Int)(h:Lib.atoiAll s.data.toList= .ok v)(w:World):
  Calls Tryz.prog 185 #[.string s] w fun e w'=>e= .returned (.tuple #[.int .i64 v,.nilIface])∧(w'=w∨∃t,w'=Lib.bytesWorld w 5 t):=Any.strconv_Atoi_ok Tryz.pB s hmax v h w
open Go.RowKit in
theorem Tryz.strconv_Atoi_syntax_var(s:ByteArray)(hlim:s.size≤281474976710656)(h:Lib.atoiAll s.data.toList=Lib.atoiAll [])(tp:TypeId)(p:Value)(w:World)(hvar:w.var? Tryz.prog "strconv.ErrSyntax" =some #[.iface tp p]):
  Calls Tryz.prog 185 #[.string s] w fun e w'=>∃N,e= .returned (.tuple #[.int .i64 0,.iface 276 (.pointer (some ⟨N,0,none⟩))])∧w.heap.size≤N∧w'.heap[N]?=some (.cells #[.string ⟨#[65,116,111,105]⟩,.string s,.iface tp p] 322 (0,0))∧Below w.heap.size w w':=Any.strconv_Atoi_syntax_var Tryz.pB s hlim (h.trans rfl) tp p w hvar
open Go.RowKit in
theorem Tryz.strconv_Atoi_range_var(s:ByteArray)(hlim:s.size≤281474976710656)(h:Lib.atoiAll s.data.toList= .range)(tp:TypeId)(p:Value)(w:World)(hvar:w.var? Tryz.prog "strconv.ErrRange" =some #[.iface tp p]):
  Calls Tryz.prog 185 #[.string s] w fun e w'=>∃N,e= .returned (.tuple #[.int .i64 (Lib.atoiSat s.data.toList),.iface 276 (.pointer (some ⟨N,0,none⟩))])∧w.heap.size≤N∧w'.heap[N]?=some (.cells #[.string ⟨#[65,116,111,105]⟩,.string s,.iface tp p] 322 (0,0))∧Below w.heap.size w w':=Any.strconv_Atoi_range_var Tryz.pB s hlim h tp p w hvar
def Tryz.vS:Go.Shelf.Ren:=⟨fun|145=>255|220=>285|219=>219|217=>242|225=>243|224=>244|267=>245|266=>278|314=>279|n=>n,fun|9=>9|4=>4|59=>283|3=>3|5=>5|46=>228|146=>316|51=>315|n=>n,fun|1=>1|n=>n⟩
theorem Tryz.IH:Go.Proofs.Lays.n145 Tryz.prog Tryz.vS:={
 mixed:=by kernel_rfl
 f145:=Tryz.func255.trans (congrArg some (by kernel_rfl))
 f217:=Tryz.func242.trans (congrArg some (by kernel_rfl))
 f219:=Tryz.func219.trans (congrArg some (by kernel_rfl))
 f220:=Tryz.func285.trans (congrArg some (by kernel_rfl))
 f224:=Tryz.func244.trans (congrArg some (by kernel_rfl))
 f225:=Tryz.func243.trans (congrArg some (by kernel_rfl))
 f266:=Tryz.func278.trans (congrArg some (by kernel_rfl))
 f267:=Tryz.func245.trans (congrArg some (by kernel_rfl))
 f314:=Tryz.func279.trans (congrArg some (by kernel_rfl))
 t3:=Tryz.underlying3
 a3:=Tryz.isAgg3
 z3:=Tryz.sizeOf3
 v3:=Tryz.zeroValue3
 t4:=Tryz.underlying4
 a4:=Tryz.isAgg4
 z4:=Tryz.sizeOf4
 v4:=Tryz.zeroValue4
 t5:=Tryz.underlying5
 a5:=Tryz.isAgg5
 z5:=Tryz.sizeOf5
 v5:=Tryz.zeroValue5
 t9:=Tryz.underlying9
 a9:=Tryz.isAgg9
 z9:=Tryz.sizeOf9
 v9:=Tryz.zeroValue9
 t46:=Tryz.underlying228
 a46:=Tryz.isAgg228
 z46:=Tryz.sizeOf228
 v46:=Tryz.zeroValue228
 t51:=Tryz.underlying315
 a51:=Tryz.isAgg315
 z51:=Tryz.sizeOf315
 v51:=Tryz.zeroValue315
 t59:=Tryz.underlying283
 a59:=Tryz.isAgg283
 z59:=Tryz.sizeOf283
 v59:=Tryz.zeroValue283
 t146:=Tryz.underlying316
 a146:=Tryz.isAgg316
 z146:=Tryz.sizeOf316
 v146:=Tryz.zeroValue316
 g1:=by kernel_rfl}
open Go.RowKit Go.Lib in
theorem Tryz.strings_Cut(s sep:ByteArray)(m:Int)(w:World)(hs:s.size<4294967281)(hm:w.cell? ⟨1,0,none⟩=some (.int .i64 m)):
  Calls Tryz.prog 255 #[.string s,.string sep] w fun e w'=>e= .returned (.tuple #[.string ⟨(Lib.cut s.data.toList sep.data.toList).1.toArray⟩,.string ⟨(Lib.cut s.data.toList sep.data.toList).2.1.toArray⟩,.bool (Lib.cut s.data.toList sep.data.toList).2.2])∧∃n,w'=w.drewN n:=Any.strings_Cut Tryz.IH s sep m w hs hm
def Tryz.zy:Go.Shelf.Ren:=⟨fun|99=>165|206=>207|n=>n,fun|9=>9|4=>4|3=>3|n=>n,fun|n=>n⟩
theorem Tryz.Ju:Go.Proofs.Lays.n99 Tryz.prog Tryz.zy:={
 mixed:=by kernel_rfl
 f99:=Tryz.func165.trans (congrArg some (by kernel_rfl))
 f206:=Tryz.func207.trans (congrArg some (by kernel_rfl))
 t3:=Tryz.underlying3
 a3:=Tryz.isAgg3
 z3:=Tryz.sizeOf3
 v3:=Tryz.zeroValue3
 t4:=Tryz.underlying4
 a4:=Tryz.isAgg4
 z4:=Tryz.sizeOf4
 v4:=Tryz.zeroValue4
 t9:=Tryz.underlying9
 a9:=Tryz.isAgg9
 z9:=Tryz.sizeOf9
 v9:=Tryz.zeroValue9}
open Go.RowKit Go.Lib in
theorem Tryz.strings_HasPrefix(s p:ByteArray)(w:World):
  Calls Tryz.prog 165 #[.string s,.string p] w fun e w'=>e= .returned (.bool (Lib.hasPrefix s.data.toList p.data.toList))∧w'=w:=Any.strings_HasPrefix Tryz.Ju s p w
def Tryz.xo:Go.Shelf.Ren:=⟨fun|101=>206|208=>230|206=>207|n=>n,fun|9=>9|4=>4|3=>3|n=>n,fun|n=>n⟩
theorem Tryz.IL:Go.Proofs.Lays.n101 Tryz.prog Tryz.xo:={
 mixed:=by kernel_rfl
 f101:=Tryz.func206.trans (congrArg some (by kernel_rfl))
 f206:=Tryz.func207.trans (congrArg some (by kernel_rfl))
 f208:=Tryz.func230.trans (congrArg some (by kernel_rfl))
 t3:=Tryz.underlying3
 a3:=Tryz.isAgg3
 z3:=Tryz.sizeOf3
 v3:=Tryz.zeroValue3
 t4:=Tryz.underlying4
 a4:=Tryz.isAgg4
 z4:=Tryz.sizeOf4
 v4:=Tryz.zeroValue4
 t9:=Tryz.underlying9
 a9:=Tryz.isAgg9
 z9:=Tryz.sizeOf9
 v9:=Tryz.zeroValue9}
open Go.RowKit Go.Lib in
theorem Tryz.strings_TrimPrefix(s p:ByteArray)(w:World):
  Calls Tryz.prog 206 #[.string s,.string p] w fun e w'=>e= .returned (.string ⟨(Lib.trimPrefix s.data.toList p.data.toList).toArray⟩)∧w'=w:=Any.strings_TrimPrefix Tryz.IL s p w
def Tryz.xx:Go.Shelf.Ren:=⟨fun|146=>63|221=>120|268=>182|138=>183|143=>184|195=>216|197=>217|218=>218|219=>219|260=>241|217=>242|225=>243|224=>244|267=>245|266=>278|314=>279|n=>n,fun|9=>9|31=>105|3=>3|4=>4|0=>0|105=>253|21=>21|5=>5|46=>228|119=>311|139=>314|138=>313|146=>316|51=>315|n=>n,fun|1=>1|3=>2|4=>3|n=>n⟩
theorem Tryz.GJ:Go.Proofs.Lays.n146 Tryz.prog Tryz.xx:={
 mixed:=by kernel_rfl
 f138:=Tryz.func183.trans (congrArg some (by kernel_rfl))
 f143:=Tryz.func184.trans (congrArg some (by kernel_rfl))
 f146:=Tryz.func63.trans (congrArg some (by kernel_rfl))
 f195:=Tryz.func216.trans (congrArg some (by kernel_rfl))
 f197:=Tryz.func217.trans (congrArg some (by kernel_rfl))
 f217:=Tryz.func242.trans (congrArg some (by kernel_rfl))
 f218:=Tryz.func218.trans (congrArg some (by kernel_rfl))
 f219:=Tryz.func219.trans (congrArg some (by kernel_rfl))
 f221:=Tryz.func120.trans (congrArg some (by kernel_rfl))
 f224:=Tryz.func244.trans (congrArg some (by kernel_rfl))
 f225:=Tryz.func243.trans (congrArg some (by kernel_rfl))
 f260:=Tryz.func241.trans (congrArg some (by kernel_rfl))
 f266:=Tryz.func278.trans (congrArg some (by kernel_rfl))
 f267:=Tryz.func245.trans (congrArg some (by kernel_rfl))
 f268:=Tryz.func182.trans (congrArg some (by kernel_rfl))
 f314:=Tryz.func279.trans (congrArg some (by kernel_rfl))
 t0:=Tryz.underlying0
 a0:=Tryz.isAgg0
 z0:=Tryz.sizeOf0
 v0:=Tryz.zeroValue0
 t3:=Tryz.underlying3
 a3:=Tryz.isAgg3
 z3:=Tryz.sizeOf3
 v3:=Tryz.zeroValue3
 t4:=Tryz.underlying4
 a4:=Tryz.isAgg4
 z4:=Tryz.sizeOf4
 v4:=Tryz.zeroValue4
 t5:=Tryz.underlying5
 a5:=Tryz.isAgg5
 z5:=Tryz.sizeOf5
 v5:=Tryz.zeroValue5
 t9:=Tryz.underlying9
 a9:=Tryz.isAgg9
 z9:=Tryz.sizeOf9
 v9:=Tryz.zeroValue9
 t21:=Tryz.underlying21
 a21:=Tryz.isAgg21
 z21:=Tryz.sizeOf21
 v21:=Tryz.zeroValue21
 t31:=Tryz.underlying105
 a31:=Tryz.isAgg105
 z31:=Tryz.sizeOf105
 v31:=Tryz.zeroValue105
 t46:=Tryz.underlying228
 a46:=Tryz.isAgg228
 z46:=Tryz.sizeOf228
 v46:=Tryz.zeroValue228
 t51:=Tryz.underlying315
 a51:=Tryz.isAgg315
 z51:=Tryz.sizeOf315
 v51:=Tryz.zeroValue315
 t105:=Tryz.underlying253
 a105:=Tryz.isAgg253
 z105:=Tryz.sizeOf253
 v105:=Tryz.zeroValue253
 t119:=Tryz.underlying311
 a119:=Tryz.isAgg311
 z119:=Tryz.sizeOf311
 t138:=Tryz.underlying313
 a138:=Tryz.isAgg313
 z138:=Tryz.sizeOf313
 v138:=Tryz.zeroValue313
 t139:=Tryz.underlying314
 a139:=Tryz.isAgg314
 z139:=Tryz.sizeOf314
 v139:=Tryz.zeroValue314
 t146:=Tryz.underlying316
 a146:=Tryz.isAgg316
 z146:=Tryz.sizeOf316
 v146:=Tryz.zeroValue316
 g1:=by kernel_rfl
 g3:=by kernel_rfl
 g4:=by kernel_rfl}
open Go.RowKit Go.Lib in
theorem Tryz.strings_Split(s sep:ByteArray)(m:Int)(w:World)(hs:s.size<4294967281)(hm:w.cell? ⟨1,0,none⟩=some (.int .i64 m))(h1:1≤sep.size):
  Calls Tryz.prog 63 #[.string s,.string sep] w fun e w'=>
   e= .returned (.slice (some ⟨w.heap.size,0,none⟩) (Lib.countB s sep+1) (Lib.countB s sep+1))∧w'=w.alloc (.cells ((Lib.splitB sep 0 (Lib.countB s sep) s).map Value.string).toArray 9):=Any.strings_Split Tryz.GJ (by kernel_rfl) s sep m w hs hm h1
def Tryz.mQ:Go.Shelf.Ren:=⟨fun|105=>323|212=>336|99=>165|165=>337|166=>180|170=>178|169=>62|263=>341|264=>342|206=>207|240=>214|241=>343|276=>239|277=>346|n=>n,fun|9=>9|3=>3|4=>4|20=>20|0=>0|46=>228|109=>361|5=>5|72=>110|76=>222|51=>315|146=>316|53=>306|148=>369|70=>107|37=>108|75=>220|127=>152|164=>270|80=>114|n=>n,fun|n=>n⟩
theorem Tryz.Gu:Go.Proofs.Lays.n105 Tryz.prog Tryz.mQ:={
 mixed:=by kernel_rfl
 f99:=Tryz.func165.trans (congrArg some (by kernel_rfl))
 f105:=Tryz.func323.trans (congrArg some (by kernel_rfl))
 f165:=Tryz.func337.trans (congrArg some (by kernel_rfl))
 f166:=Tryz.func180.trans (congrArg some (by kernel_rfl))
 f169:=Tryz.func62.trans (congrArg some (by kernel_rfl))
 f170:=Tryz.func178.trans (congrArg some (by kernel_rfl))
 f206:=Tryz.func207.trans (congrArg some (by kernel_rfl))
 f212:=Tryz.func336.trans (congrArg some (by kernel_rfl))
 f240:=Tryz.func214.trans (congrArg some (by kernel_rfl))
 f241:=Tryz.func343.trans (congrArg some (by kernel_rfl))
 f263:=Tryz.func341.trans (congrArg some (by kernel_rfl))
 f264:=Tryz.func342.trans (congrArg some (by kernel_rfl))
 f276:=Tryz.func239.trans (congrArg some (by kernel_rfl))
 f277:=Tryz.func346.trans (congrArg some (by kernel_rfl))
 t0:=Tryz.underlying0
 a0:=Tryz.isAgg0
 z0:=Tryz.sizeOf0
 v0:=Tryz.zeroValue0
 t3:=Tryz.underlying3
 a3:=Tryz.isAgg3
 z3:=Tryz.sizeOf3
 v3:=Tryz.zeroValue3
 t4:=Tryz.underlying4
 a4:=Tryz.isAgg4
 z4:=Tryz.sizeOf4
 v4:=Tryz.zeroValue4
 t5:=Tryz.underlying5
 a5:=Tryz.isAgg5
 z5:=Tryz.sizeOf5
 v5:=Tryz.zeroValue5
 t9:=Tryz.underlying9
 a9:=Tryz.isAgg9
 z9:=Tryz.sizeOf9
 v9:=Tryz.zeroValue9
 t20:=Tryz.underlying20
 a20:=Tryz.isAgg20
 z20:=Tryz.sizeOf20
 v20:=Tryz.zeroValue20
 t37:=Tryz.underlying108
 a37:=Tryz.isAgg108
 z37:=Tryz.sizeOf108
 v37:=Tryz.zeroValue108
 t46:=Tryz.underlying228
 a46:=Tryz.isAgg228
 z46:=Tryz.sizeOf228
 v46:=Tryz.zeroValue228
 t51:=Tryz.underlying315
 a51:=Tryz.isAgg315
 z51:=Tryz.sizeOf315
 v51:=Tryz.zeroValue315
 t53:=Tryz.underlying306
 a53:=Tryz.isAgg306
 z53:=Tryz.sizeOf306
 v53:=Tryz.zeroValue306
 t70:=Tryz.underlying107
 a70:=Tryz.isAgg107
 z70:=Tryz.sizeOf107
 v70:=Tryz.zeroValue107
 t72:=Tryz.underlying110
 a72:=Tryz.isAgg110
 z72:=Tryz.sizeOf110
 v72:=Tryz.zeroValue110
 t75:=Tryz.underlying220
 a75:=Tryz.isAgg220
 z75:=Tryz.sizeOf220
 v75:=Tryz.zeroValue220
 t76:=Tryz.underlying222
 a76:=Tryz.isAgg222
 z76:=Tryz.sizeOf222
 v76:=Tryz.zeroValue222
 t109:=Tryz.underlying361
 a109:=Tryz.isAgg361
 z109:=Tryz.sizeOf361
 v109:=Tryz.zeroValue361
 t127:=Tryz.underlying152
 a127:=Tryz.isAgg152
 z127:=Tryz.sizeOf152
 v127:=Tryz.zeroValue152
 t146:=Tryz.underlying316
 a146:=Tryz.isAgg316
 z146:=Tryz.sizeOf316
 v146:=Tryz.zeroValue316
 t148:=Tryz.underlying369
 a148:=Tryz.isAgg369
 z148:=Tryz.sizeOf369
 v148:=Tryz.zeroValue369
 t164:=Tryz.underlying270
 a164:=Tryz.isAgg270
 z164:=Tryz.sizeOf270
 v164:=Tryz.zeroValue270}
theorem Tryz.lD:Builder.Extra Tryz.prog Tryz.mQ:={
 sizeBuilder:=by kernel_rfl
 liesBuilder:=by kernel_rfl
 t5:=Tryz.underlying5
 a5:=Tryz.isAgg5
 z5:=Tryz.sizeOf5
 v5:=Tryz.zeroValue5
 infoByte:=by kernel_rfl
 cellsByte:=by kernel_rfl
 sizeByte:=by kernel_rfl
 neB5:=by decide}
open Go.RowKit Go.Lib in
theorem Tryz.strings_Repeat(s:ByteArray)(c:Nat)(w:World)(hc:c≤9223372036854775807)(hlen:s.size*c≤140737488355328):
  Calls Tryz.prog 323 #[.string s,.int .i64 c] w fun e w'=>e= .returned (.string ⟨(Lib.repeatL s.data.toList c).toArray⟩)∧Below w.heap.size w w':=Any.strings_Repeat Tryz.Gu Tryz.lD s c w hc hlen
def Tryz.wj:Go.Shelf.Ren:=⟨fun|111=>25|n=>n,fun|28=>25|3=>3|4=>4|0=>0|n=>n,fun|n=>n⟩
theorem Tryz.Ac:Go.Proofs.Lays.n111 Tryz.prog Tryz.wj:={
 mixed:=by kernel_rfl
 f111:=Tryz.func25.trans (congrArg some (by kernel_rfl))
 t0:=Tryz.underlying0
 a0:=Tryz.isAgg0
 z0:=Tryz.sizeOf0
 v0:=Tryz.zeroValue0
 t3:=Tryz.underlying3
 a3:=Tryz.isAgg3
 z3:=Tryz.sizeOf3
 v3:=Tryz.zeroValue3
 t4:=Tryz.underlying4
 a4:=Tryz.isAgg4
 z4:=Tryz.sizeOf4
 v4:=Tryz.zeroValue4
 t28:=Tryz.underlying25
 a28:=Tryz.isAgg25
 z28:=Tryz.sizeOf25
 v28:=Tryz.zeroValue25}
open Go.RowKit Go.Lib in
theorem Tryz.slices_Equal_int(b1 o1 n c b2 o2 m d:Nat)(xs ys:List Int)(w:World)(hx:n≤xs.length)(hy:m≤ys.length)(hbig:n≤9223372036854775807)(hbig2:m≤9223372036854775807)(hc1:∀j,j<xs.length→w.cell? ⟨b1,o1+j,none⟩=some (.int .i64 (xs.getD j 0)))(hc2:∀j,j<ys.length→w.cell? ⟨b2,o2+j,none⟩=some (.int .i64 (ys.getD j 0))):
  Calls Tryz.prog 25 #[.slice (some ⟨b1,o1,none⟩) n c,.slice (some ⟨b2,o2,none⟩) m d] w fun e w'=>e= .returned (.bool (xs.take n==ys.take m))∧∃q,w'=w.drewN q:=Any.slices_Equal_int Tryz.Ac b1 o1 n c b2 o2 m d xs ys w hx hy hbig hbig2 hc1 hc2
open Go.RowKit Go.Lib in
theorem Tryz.slices_Equal_int_empty(a1 a2:Option Addr)(c m d:Nat)(w:World)(hbig2:m≤9223372036854775807):
  Calls Tryz.prog 25 #[.slice a1 0 c,.slice a2 m d] w fun e w'=>e= .returned (.bool (decide (m=0)))∧w'=w:=Any.slices_Equal_int_empty Tryz.Ac a1 a2 c m d w hbig2
def Tryz.qq:Go.Shelf.Ren:=⟨fun|25=>127|31=>186|32=>187|37=>222|n=>n,fun|22=>25|3=>3|4=>4|40=>228|0=>0|n=>n,fun|n=>n⟩
theorem Tryz.sD:Go.Proofs.Lays2.n25 Tryz.prog Tryz.qq:={
 mixed:=by kernel_rfl
 f25:=Tryz.func127.trans (congrArg some (by kernel_rfl))
 f31:=Tryz.func186.trans (congrArg some (by kernel_rfl))
 f32:=Tryz.func187.trans (congrArg some (by kernel_rfl))
 f37:=Tryz.func222.trans (congrArg some (by kernel_rfl))
 t0:=Tryz.underlying0
 a0:=Tryz.isAgg0
 z0:=Tryz.sizeOf0
 v0:=Tryz.zeroValue0
 t3:=Tryz.underlying3
 a3:=Tryz.isAgg3
 z3:=Tryz.sizeOf3
 v3:=Tryz.zeroValue3
 t4:=Tryz.underlying4
 a4:=Tryz.isAgg4
 z4:=Tryz.sizeOf4
 v4:=Tryz.zeroValue4
 t22:=Tryz.underlying25
 a22:=Tryz.isAgg25
 z22:=Tryz.sizeOf25
 v22:=Tryz.zeroValue25
 t40:=Tryz.underlying228
 a40:=Tryz.isAgg228
 z40:=Tryz.sizeOf228
 v40:=Tryz.zeroValue228}
open Go.RowKit Go.Lib in
theorem Tryz.slices_BinarySearch_int(b off n c:Nat)(zs:List Int)(x:Int)(w:World)(hz:n≤zs.length)(hbig:n<4611686018427387904)(hc:∀j,j<zs.length→w.cell? ⟨b,off+j,none⟩=some (.int .i64 (zs.getD j 0)))(hs:(zs.take n).Pairwise (· ≤ ·)):
  Calls Tryz.prog 127 #[.slice (some ⟨b,off,none⟩) n c,.int .i64 x] w fun e w'=>e= .returned (.tuple #[.int .i64 ((zs.take n).countP (· <x):Nat),.bool ((zs.take n).contains x)])∧∃q,w'=w.drewN q:=Any.slices_BinarySearch_int Tryz.sD b off n c zs x w hz hbig hc hs
open Go.RowKit Go.Lib in
theorem Tryz.slices_BinarySearch_int_empty(a:Option Addr)(c:Nat)(x:Int)(w:World):
  Calls Tryz.prog 127 #[.slice a 0 c,.int .i64 x] w fun e w'=>e= .returned (.tuple #[.int .i64 0,.bool false])∧w'=w:=Any.slices_BinarySearch_int_empty Tryz.sD a c x w
end Go.Proofs
