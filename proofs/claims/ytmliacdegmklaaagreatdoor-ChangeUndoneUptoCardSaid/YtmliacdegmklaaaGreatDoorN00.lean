/- ChangeUndone of kingpostlaw58: part 0 of its proof (merged and shortened by program). -/
import Derived.Shelf.Strings.Builder1
import Derived.Shelf.Strings.Builder2
import Derived.Shelf.Strings.Trim
import Derived.Shelf.Small.Utf8
import Derived.Shelf.Small.Strs
import Derived.Shelf.Small.Wraps
import Derived.Shelf.Strings.BuilderF
import Derived.Shelf.Strings.BuilderK
import Derived.Shelf.Strconv.Atoi
import Derived.Shelf.Strconv.Itoa0
import Derived.Shelf.Strconv.Itoa1
import Derived.Shelf.LaysM
import Derived.Shelf.Strconv.Itoa2
import Derived.Shelf.Strconv.Itoa3
import Derived.Shelf.Strconv.AtoiErrFast
import Derived.Shelf.Strconv.ParseIntEmpty
import Derived.Shelf.Strconv.AtoiFail
import Derived.Shelf.Strconv.Clone
import Derived.Shelf.Strconv.SyntaxError
import Derived.Shelf.LaysC
import Derived.Shelf.Strconv.ToError
import Derived.Shelf.Strconv.Lower
import Derived.Shelf.Strconv.ParseUint10
import Derived.Shelf.Strconv.ParseUint10Empty
import Derived.Shelf.Strconv.ParseUint10Any
import Derived.Shelf.Strconv.ParseInt10
import Derived.Shelf.Strconv.AtoiLong
import Derived.Shelf.Strconv.AtoiInnerAll
import Derived.Shelf.Strconv.RangeError
import Derived.Shelf.Strconv.ToErrorRange
import Derived.Shelf.Strconv.AtoiAll
import Derived.Shelf.Strconv.ErrVarAll
import Derived.Shelf.Strings.Search1
import Derived.Shelf.Strings.Search2
import Derived.Shelf.Strings.Search3
import Derived.Shelf.Strings.Cut
import Derived.Shelf.Strings.Count
import Derived.Shelf.Strings.Shaped
import Derived.Shelf.Strings.Prefix
import Derived.Shelf.Strings.Split
import Derived.Shelf.Strings.SplitShaped
import Derived.Shelf.Strings.Runes
import Derived.Shelf.Strings.AsciiSet
import Derived.Shelf.Bits.Mul64
import Derived.Shelf.Strings.Repeat
import Derived.Shelf.Unicode.DecodeSlow
import Derived.Shelf.Slices.Turned
import Derived.Shelf.Slices.Reverse
import Derived.Shelf.Slices.Equal
import Derived.Ground.Names2Prog
import Derived.Shelf.Slices.Clone
import Derived.Shelf.Slices.SearchI
import Derived.Shelf.Slices.Delete
import Derived.Shelf.Slices.Cells
import Derived.Shelf.Slices.Empties
import Derived.Shelf.Slices.Empties2
import Derived.Test.YtmliacdegmklaaaGreatDoorProg
set_option linter.unusedVariables false
set_option linter.unusedSimpArgs false
set_option linter.defProp false
set_option maxHeartbeats 8000000
set_option maxRecDepth 100000
namespace Go.Proofs
theorem kS{α:Type}{a:Option α}{x y:α}(h:a=some x)(e:x=y:=by kernel_rfl):a=some y:=h.trans (congrArg some e)
open Tryz
def Tryz.Be:Go.Shelf.Ren:=⟨fun|160=>344|232=>353|231=>352|227=>354|234=>356|233=>355|236=>358|235=>357|228=>361|271=>363|151=>362|197=>233|120=>368|152=>367|260=>261|137=>370|119=>371|224=>264|225=>263|217=>262|266=>299|n=>n,fun|9=>9|4=>4|3=>3|5=>5|117=>378|116=>377|0=>0|124=>381|21=>21|105=>268|46=>247|119=>329|139=>332|138=>331|n=>n,fun|3=>2|4=>3|n=>n⟩
theorem Tryz.O4:Go.Proofs.Lays.n160 prog Be:=⟨by kernel_rfl,kS func371,kS func368,kS func370,kS func362,kS func367,kS func344,kS func233,kS func262,kS func264,kS func263,kS func354,kS func361,kS func352,kS func353,kS func355,kS func356,kS func357,kS func358,kS func261,kS func299,kS func363,underlying0,isAgg0,sizeOf0,zeroValue0,underlying3,isAgg3,sizeOf3,zeroValue3,underlying4,isAgg4,sizeOf4,zeroValue4,underlying5,isAgg5,sizeOf5,zeroValue5,underlying9,isAgg9,sizeOf9,zeroValue9,underlying21,isAgg21,sizeOf21,zeroValue21,underlying247,isAgg247,sizeOf247,zeroValue247,underlying268,isAgg268,sizeOf268,zeroValue268,underlying377,isAgg377,sizeOf377,underlying378,isAgg378,sizeOf378,zeroValue378,underlying329,isAgg329,sizeOf329,underlying381,isAgg381,sizeOf381,zeroValue381,underlying331,isAgg331,sizeOf331,zeroValue331,underlying332,isAgg332,sizeOf332,zeroValue332,by kernel_rfl,by kernel_rfl⟩
def Tryz.Dz:Go.Shelf.Ren:=⟨fun|103=>290|210=>323|206=>244|n=>n,fun|9=>9|4=>4|24=>113|3=>3|n=>n,fun|n=>n⟩
theorem Tryz.Qf:Go.Proofs.Lays.n103 prog Dz:=⟨by kernel_rfl,kS func290,kS func244,kS func323,underlying3,isAgg3,sizeOf3,zeroValue3,underlying4,isAgg4,sizeOf4,zeroValue4,underlying9,isAgg9,sizeOf9,zeroValue9,underlying113,isAgg113,sizeOf113,zeroValue113⟩
open Go.RowKit in
theorem Tryz.strings_CutPrefix(s p:ByteArray)(w:World):
  Calls prog 290 #[.string s,.string p] w fun e w'=>e= .returned (.tuple #[.string ⟨(Lib.trimPrefix s.data.toList p.data.toList).toArray⟩,.bool (Lib.hasPrefix s.data.toList p.data.toList)])∧w'=w:=Any.strings_CutPrefix Qf s p w
def Tryz.BX:Go.Shelf.Ren:=⟨fun|122=>214|215=>245|n=>n,fun|3=>3|4=>4|n=>n,fun|n=>n⟩
theorem Tryz.PV:Go.Proofs.Lays.n122 prog BX:=⟨by kernel_rfl,kS func214,kS func245,underlying3,isAgg3,sizeOf3,zeroValue3,underlying4,isAgg4,sizeOf4,zeroValue4⟩
open Go.RowKit in
theorem Tryz.cmp_Compare_int(x y:Int)(w:World):
  Calls prog 214 #[.int .i64 x,.int .i64 y] w fun e w'=>e= .returned (.int .i64 (Lib.compareInt x y))∧w'=w:=Any.cmp_Compare_int PV x y w
def Tryz.AP:Go.Shelf.Ren:=⟨fun|172=>187|244=>236|245=>237|247=>266|279=>267|280=>268|281=>269|282=>270|287=>301|316=>302|171=>182|205=>303|321=>335|322=>336|243=>230|246=>257|283=>285|284=>286|285=>287|286=>288|129=>318|317=>317|318=>319|319=>320|320=>321|337=>342|338=>343|n=>n,fun|9=>9|3=>3|75=>212|76=>214|4=>4|5=>5|167=>292|37=>119|0=>0|85=>293|2=>2|168=>295|53=>314|175=>336|46=>247|210=>340|127=>163|145=>366|143=>364|21=>21|171=>313|173=>317|212=>352|51=>333|20=>20|213=>353|232=>373|233=>374|80=>125|n=>n,fun|15=>4|16=>5|17=>6|18=>7|19=>8|n=>n⟩
theorem Tryz.OG:Go.Proofs.Lays.n172 prog AP:=⟨by kernel_rfl,kS func318,kS func182,kS func187,kS func303,kS func230,kS func236,kS func237,kS func257,kS func266,kS func267,kS func268,kS func269,kS func270,kS func285,kS func286,kS func287,kS func288,kS func301,kS func302,kS func317,kS func319,kS func320,kS func321,kS func335,kS func336,kS func342,kS func343,underlying0,isAgg0,sizeOf0,zeroValue0,underlying2,isAgg2,sizeOf2,zeroValue2,underlying3,isAgg3,sizeOf3,zeroValue3,underlying4,isAgg4,sizeOf4,zeroValue4,underlying5,isAgg5,sizeOf5,zeroValue5,underlying9,isAgg9,sizeOf9,zeroValue9,underlying20,isAgg20,sizeOf20,zeroValue20,underlying21,isAgg21,sizeOf21,zeroValue21,underlying119,isAgg119,sizeOf119,zeroValue119,underlying247,isAgg247,sizeOf247,zeroValue247,underlying333,isAgg333,sizeOf333,zeroValue333,underlying314,isAgg314,sizeOf314,zeroValue314,underlying212,isAgg212,sizeOf212,zeroValue212,underlying214,isAgg214,sizeOf214,zeroValue214,underlying293,isAgg293,sizeOf293,zeroValue293,underlying163,isAgg163,sizeOf163,zeroValue163,underlying364,isAgg364,sizeOf364,zeroValue364,underlying366,isAgg366,sizeOf366,zeroValue366,underlying292,isAgg292,sizeOf292,zeroValue292,underlying295,isAgg295,sizeOf295,zeroValue295,underlying313,isAgg313,sizeOf313,zeroValue313,underlying317,isAgg317,sizeOf317,zeroValue317,underlying336,isAgg336,sizeOf336,zeroValue336,underlying340,isAgg340,sizeOf340,zeroValue340,underlying352,isAgg352,sizeOf352,zeroValue352,underlying353,isAgg353,sizeOf353,underlying373,isAgg373,sizeOf373,zeroValue373,underlying374,isAgg374,sizeOf374,zeroValue374,by kernel_rfl,by kernel_rfl,by kernel_rfl,by kernel_rfl,by kernel_rfl⟩
open Go.RowKit in
theorem Tryz.strconv_Atoi(s:ByteArray)(n:Int)(hl:s.size≤18)(h:Lib.atoi s.data.toList=some n)(w:World):
  Calls prog 187 #[.string s] w fun e w'=>e= .returned (.tuple #[.int .i64 n,.nilIface])∧∃t,w'=Lib.bytesWorld w 5 t:=Any.strconv_Atoi OG s n hl h w
def Tryz.zL:Go.Shelf.Ren:=⟨fun|171=>182|243=>230|246=>257|283=>285|284=>286|285=>287|286=>288|129=>318|317=>317|318=>319|319=>320|320=>321|337=>342|338=>343|n=>n,fun|3=>3|9=>9|2=>2|4=>4|171=>313|0=>0|53=>314|37=>119|5=>5|173=>317|212=>352|51=>333|20=>20|213=>353|46=>247|232=>373|233=>374|n=>n,fun|17=>6|18=>7|19=>8|n=>n⟩
theorem Tryz.Ke:Go.Proofs.LaysM.n171 prog zL:={mixed:=by kernel_rfl,f129:=kS func318,f171:=kS func182,f243:=kS func230,f246:=kS func257,f283:=kS func285,f284:=kS func286,f285:=kS func287,f286:=kS func288,f317:=kS func317,f318:=kS func319,f319:=kS func320,f320:=kS func321,f337:=kS func342,f338:=kS func343,t0:=underlying0,a0:=isAgg0,z0:=sizeOf0,v0:=zeroValue0,t2:=underlying2,a2:=isAgg2,z2:=sizeOf2,v2:=zeroValue2,t3:=underlying3,a3:=isAgg3,z3:=sizeOf3,v3:=zeroValue3,t4:=underlying4,a4:=isAgg4,z4:=sizeOf4,v4:=zeroValue4,t5:=underlying5,a5:=isAgg5,z5:=sizeOf5,v5:=zeroValue5,t9:=underlying9,a9:=isAgg9,z9:=sizeOf9,v9:=zeroValue9,t20:=underlying20,a20:=isAgg20,z20:=sizeOf20,v20:=zeroValue20,t37:=underlying119,a37:=isAgg119,z37:=sizeOf119,v37:=zeroValue119,t46:=underlying247,a46:=isAgg247,z46:=sizeOf247,v46:=zeroValue247,t51:=underlying333,a51:=isAgg333,z51:=sizeOf333,v51:=zeroValue333,t53:=underlying314,a53:=isAgg314,z53:=sizeOf314,v53:=zeroValue314,t171:=underlying313,a171:=isAgg313,z171:=sizeOf313,v171:=zeroValue313,t173:=underlying317,a173:=isAgg317,z173:=sizeOf317,v173:=zeroValue317,t212:=underlying352,a212:=isAgg352,z212:=sizeOf352,v212:=zeroValue352,t213:=underlying353,a213:=isAgg353,z213:=sizeOf353,t232:=underlying373,a232:=isAgg373,z232:=sizeOf373,v232:=zeroValue373,t233:=underlying374,a233:=isAgg374,z233:=sizeOf374,v233:=zeroValue374,g17:=by kernel_rfl,g18:=by kernel_rfl,g19:=by kernel_rfl,i0:=by kernel_rfl,i2:=by kernel_rfl,i3:=by kernel_rfl,i4:=by kernel_rfl,i5:=by kernel_rfl,i9:=by kernel_rfl,i20:=by kernel_rfl,i37:=by kernel_rfl,i46:=by kernel_rfl,i51:=by kernel_rfl,i53:=by kernel_rfl,i171:=by kernel_rfl,i173:=by kernel_rfl,i212:=by kernel_rfl,i232:=by kernel_rfl,i233:=by kernel_rfl,m17:=by kernel_rfl,m18:=by kernel_rfl,m19:=by kernel_rfl}
open Go.RowKit Go.Sort Go.Lib in
theorem Tryz.strconv_Itoa(n:Int)(h0: -9223372036854775808≤n)(h1:n≤9223372036854775807)(w:World)(htab:Lib.TabIs prog w "internal/strconv.uint64pow10" .u64 Lib.pow10Tab):
  Calls prog 182 #[.int .i64 n] w fun e w'=>e= .returned (.string ⟨(Lib.itoa n).toArray⟩)∧∃k os,w'=grow (w.drewN k) os:=Any.strconv_Itoa Ke n h0 h1 w htab
def Tryz.An:Go.Shelf.Ren:=⟨fun|172=>187|244=>236|245=>237|247=>266|279=>267|280=>268|281=>269|282=>270|287=>301|316=>302|171=>182|205=>303|321=>335|322=>336|243=>230|246=>257|283=>285|284=>286|285=>287|286=>288|129=>318|317=>317|318=>319|319=>320|320=>321|337=>342|338=>343|n=>n,fun|9=>9|3=>3|75=>212|76=>214|4=>4|5=>5|167=>292|37=>119|0=>0|85=>293|2=>2|168=>295|53=>314|175=>336|46=>247|210=>340|127=>163|145=>366|143=>364|21=>21|171=>313|173=>317|212=>352|51=>333|20=>20|213=>353|232=>373|233=>374|80=>125|n=>n,fun|15=>4|16=>5|17=>6|18=>7|19=>8|n=>n⟩
theorem Tryz.vP:Go.Proofs.LaysC.n172 prog An:={mixed:=by kernel_rfl,f129:=kS func318,f171:=kS func182,f172:=kS func187,f205:=kS func303,f243:=kS func230,f244:=kS func236,f245:=kS func237,f246:=kS func257,f247:=kS func266,f279:=kS func267,f280:=kS func268,f281:=kS func269,f282:=kS func270,f283:=kS func285,f284:=kS func286,f285:=kS func287,f286:=kS func288,f287:=kS func301,f316:=kS func302,f317:=kS func317,f318:=kS func319,f319:=kS func320,f320:=kS func321,f321:=kS func335,f322:=kS func336,f337:=kS func342,f338:=kS func343,t0:=underlying0,a0:=isAgg0,z0:=sizeOf0,v0:=zeroValue0,t2:=underlying2,a2:=isAgg2,z2:=sizeOf2,v2:=zeroValue2,t3:=underlying3,a3:=isAgg3,z3:=sizeOf3,v3:=zeroValue3,t4:=underlying4,a4:=isAgg4,z4:=sizeOf4,v4:=zeroValue4,t5:=underlying5,a5:=isAgg5,z5:=sizeOf5,v5:=zeroValue5,t9:=underlying9,a9:=isAgg9,z9:=sizeOf9,v9:=zeroValue9,t20:=underlying20,a20:=isAgg20,z20:=sizeOf20,v20:=zeroValue20,t21:=underlying21,a21:=isAgg21,z21:=sizeOf21,v21:=zeroValue21,t37:=underlying119,a37:=isAgg119,z37:=sizeOf119,v37:=zeroValue119,t46:=underlying247,a46:=isAgg247,z46:=sizeOf247,v46:=zeroValue247,t51:=underlying333,a51:=isAgg333,z51:=sizeOf333,v51:=zeroValue333,t53:=underlying314,a53:=isAgg314,z53:=sizeOf314,v53:=zeroValue314,t75:=underlying212,a75:=isAgg212,z75:=sizeOf212,v75:=zeroValue212,t76:=underlying214,a76:=isAgg214,z76:=sizeOf214,v76:=zeroValue214,t85:=underlying293,a85:=isAgg293,z85:=sizeOf293,v85:=zeroValue293,t127:=underlying163,a127:=isAgg163,z127:=sizeOf163,v127:=zeroValue163,t143:=underlying364,a143:=isAgg364,z143:=sizeOf364,v143:=zeroValue364,t145:=underlying366,a145:=isAgg366,z145:=sizeOf366,v145:=zeroValue366,t167:=underlying292,a167:=isAgg292,z167:=sizeOf292,v167:=zeroValue292,t168:=underlying295,a168:=isAgg295,z168:=sizeOf295,v168:=zeroValue295,t171:=underlying313,a171:=isAgg313,z171:=sizeOf313,v171:=zeroValue313,t173:=underlying317,a173:=isAgg317,z173:=sizeOf317,v173:=zeroValue317,t175:=underlying336,a175:=isAgg336,z175:=sizeOf336,v175:=zeroValue336,t210:=underlying340,a210:=isAgg340,z210:=sizeOf340,v210:=zeroValue340,t212:=underlying352,a212:=isAgg352,z212:=sizeOf352,v212:=zeroValue352,t213:=underlying353,a213:=isAgg353,z213:=sizeOf353,t232:=underlying373,a232:=isAgg373,z232:=sizeOf373,v232:=zeroValue373,t233:=underlying374,a233:=isAgg374,z233:=sizeOf374,v233:=zeroValue374,g15:=by kernel_rfl,g16:=by kernel_rfl,g17:=by kernel_rfl,g18:=by kernel_rfl,g19:=by kernel_rfl,t80:=underlying125,a80:=isAgg125,z80:=sizeOf125,v80:=zeroValue125,i0:=by kernel_rfl,i2:=by kernel_rfl,i3:=by kernel_rfl,i4:=by kernel_rfl,i5:=by kernel_rfl,i9:=by kernel_rfl,i20:=by kernel_rfl,i21:=by kernel_rfl,i37:=by kernel_rfl,i46:=by kernel_rfl,i51:=by kernel_rfl,i53:=by kernel_rfl,i75:=by kernel_rfl,i76:=by kernel_rfl,i80:=by kernel_rfl,i85:=by kernel_rfl,i127:=by kernel_rfl,i143:=by kernel_rfl,i145:=by kernel_rfl,i167:=by kernel_rfl,i168:=by kernel_rfl,i171:=by kernel_rfl,i173:=by kernel_rfl,i175:=by kernel_rfl,i210:=by kernel_rfl,i212:=by kernel_rfl,i232:=by kernel_rfl,i233:=by kernel_rfl,m15:=by kernel_rfl,m16:=by kernel_rfl,m17:=by kernel_rfl,m18:=by kernel_rfl,m19:=by kernel_rfl,c0:=by kernel_rfl,c2:=by kernel_rfl,c3:=by kernel_rfl,c4:=by kernel_rfl,c5:=by kernel_rfl,c9:=by kernel_rfl,c20:=by kernel_rfl,c21:=by kernel_rfl,c37:=by kernel_rfl,c46:=by kernel_rfl,c51:=by kernel_rfl,c53:=by kernel_rfl,c75:=by kernel_rfl,c76:=by kernel_rfl,c80:=by kernel_rfl,c85:=by kernel_rfl,c127:=by kernel_rfl,c143:=by kernel_rfl,c145:=by kernel_rfl,c167:=by kernel_rfl,c168:=by kernel_rfl,c171:=by kernel_rfl,c173:=by kernel_rfl,c175:=by kernel_rfl,c210:=by kernel_rfl,c212:=by kernel_rfl,c213:=by kernel_rfl,c232:=by kernel_rfl,c233:=by kernel_rfl}
open Go.RowKit in
theorem Tryz.strconv_Atoi_ok(s:ByteArray)(hmax:s.size≤9223372036854775806)(v:Int)(h:Lib.atoiAll s.data.toList= .ok v)(w:World):
  Calls prog 187 #[.string s] w fun e w'=>e= .returned (.tuple #[.int .i64 v,.nilIface])∧(w'=w∨∃t,w'=Lib.bytesWorld w 5 t):=Any.strconv_Atoi_ok vP s hmax v h w
open Go.RowKit in
theorem Tryz.strconv_Atoi_syntax_var(s:ByteArray)(hlim:s.size≤281474976710656)(h:Lib.atoiAll s.data.toList=Lib.atoiAll [])(tp:TypeId)(p:Value)(w:World)(hvar:w.var? prog "strconv.ErrSyntax" =some #[.iface tp p]):
  Calls prog 187 #[.string s] w fun e w'=>∃N,e= .returned (.tuple #[.int .i64 0,.iface 295 (.pointer (some ⟨N,0,none⟩))])∧w.heap.size≤N∧w'.heap[N]?=some (.cells #[.string ⟨#[65,116,111,105]⟩,.string s,.iface tp p] 340 (0,0))∧Below w.heap.size w w':=Any.strconv_Atoi_syntax_var vP s hlim (h.trans rfl) tp p w hvar
open Go.RowKit in
theorem Tryz.strconv_Atoi_range_var(s:ByteArray)(hlim:s.size≤281474976710656)(h:Lib.atoiAll s.data.toList= .range)(tp:TypeId)(p:Value)(w:World)(hvar:w.var? prog "strconv.ErrRange" =some #[.iface tp p]):
  Calls prog 187 #[.string s] w fun e w'=>∃N,e= .returned (.tuple #[.int .i64 (Lib.atoiSat s.data.toList),.iface 295 (.pointer (some ⟨N,0,none⟩))])∧w.heap.size≤N∧w'.heap[N]?=some (.cells #[.string ⟨#[65,116,111,105]⟩,.string s,.iface tp p] 340 (0,0))∧Below w.heap.size w w':=Any.strconv_Atoi_range_var vP s hlim h tp p w hvar
def Tryz.BJ:Go.Shelf.Ren:=⟨fun|145=>289|220=>322|219=>235|217=>262|225=>263|224=>264|267=>265|266=>299|314=>300|n=>n,fun|9=>9|4=>4|59=>319|3=>3|5=>5|46=>247|146=>334|51=>333|n=>n,fun|1=>1|n=>n⟩
theorem Tryz.OD:Go.Proofs.Lays.n145 prog BJ:=⟨by kernel_rfl,kS func289,kS func262,kS func235,kS func322,kS func264,kS func263,kS func299,kS func265,kS func300,underlying3,isAgg3,sizeOf3,zeroValue3,underlying4,isAgg4,sizeOf4,zeroValue4,underlying5,isAgg5,sizeOf5,zeroValue5,underlying9,isAgg9,sizeOf9,zeroValue9,underlying247,isAgg247,sizeOf247,zeroValue247,underlying333,isAgg333,sizeOf333,zeroValue333,underlying319,isAgg319,sizeOf319,zeroValue319,underlying334,isAgg334,sizeOf334,zeroValue334,by kernel_rfl⟩
open Go.RowKit Go.Lib in
theorem Tryz.strings_Cut(s sep:ByteArray)(m:Int)(w:World)(hs:s.size<4294967281)(hm:w.cell? ⟨1,0,none⟩=some (.int .i64 m)):
  Calls prog 289 #[.string s,.string sep] w fun e w'=>e= .returned (.tuple #[.string ⟨(Lib.cut s.data.toList sep.data.toList).1.toArray⟩,.string ⟨(Lib.cut s.data.toList sep.data.toList).2.1.toArray⟩,.bool (Lib.cut s.data.toList sep.data.toList).2.2])∧∃n,w'=w.drewN n:=Any.strings_Cut OD s sep m w hs hm
def Tryz.Fk:Go.Shelf.Ren:=⟨fun|99=>206|206=>244|n=>n,fun|9=>9|4=>4|3=>3|n=>n,fun|n=>n⟩
theorem Tryz.Ry:Go.Proofs.Lays.n99 prog Fk:=⟨by kernel_rfl,kS func206,kS func244,underlying3,isAgg3,sizeOf3,zeroValue3,underlying4,isAgg4,sizeOf4,zeroValue4,underlying9,isAgg9,sizeOf9,zeroValue9⟩
open Go.RowKit Go.Lib in
theorem Tryz.strings_HasPrefix(s p:ByteArray)(w:World):
  Calls prog 206 #[.string s,.string p] w fun e w'=>e= .returned (.bool (Lib.hasPrefix s.data.toList p.data.toList))∧w'=w:=Any.strings_HasPrefix Ry s p w
def Tryz.Bf:Go.Shelf.Ren:=⟨fun|101=>243|208=>273|206=>244|n=>n,fun|9=>9|4=>4|3=>3|n=>n,fun|n=>n⟩
theorem Tryz.N8:Go.Proofs.Lays.n101 prog Bf:=⟨by kernel_rfl,kS func243,kS func244,kS func273,underlying3,isAgg3,sizeOf3,zeroValue3,underlying4,isAgg4,sizeOf4,zeroValue4,underlying9,isAgg9,sizeOf9,zeroValue9⟩
open Go.RowKit Go.Lib in
theorem Tryz.strings_TrimPrefix(s p:ByteArray)(w:World):
  Calls prog 243 #[.string s,.string p] w fun e w'=>e= .returned (.string ⟨(Lib.trimPrefix s.data.toList p.data.toList).toArray⟩)∧w'=w:=Any.strings_TrimPrefix N8 s p w
def Tryz.Bj:Go.Shelf.Ren:=⟨fun|146=>60|221=>122|268=>184|138=>185|143=>186|195=>232|197=>233|218=>234|219=>235|260=>261|217=>262|225=>263|224=>264|267=>265|266=>299|314=>300|n=>n,fun|9=>9|31=>116|3=>3|4=>4|0=>0|105=>268|21=>21|5=>5|46=>247|119=>329|139=>332|138=>331|146=>334|51=>333|n=>n,fun|1=>1|3=>2|4=>3|n=>n⟩
theorem Tryz.N7:Go.Proofs.Lays.n146 prog Bj:=⟨by kernel_rfl,kS func185,kS func186,kS func60,kS func232,kS func233,kS func262,kS func234,kS func235,kS func122,kS func264,kS func263,kS func261,kS func299,kS func265,kS func184,kS func300,underlying0,isAgg0,sizeOf0,zeroValue0,underlying3,isAgg3,sizeOf3,zeroValue3,underlying4,isAgg4,sizeOf4,zeroValue4,underlying5,isAgg5,sizeOf5,zeroValue5,underlying9,isAgg9,sizeOf9,zeroValue9,underlying21,isAgg21,sizeOf21,zeroValue21,underlying116,isAgg116,sizeOf116,zeroValue116,underlying247,isAgg247,sizeOf247,zeroValue247,underlying333,isAgg333,sizeOf333,zeroValue333,underlying268,isAgg268,sizeOf268,zeroValue268,underlying329,isAgg329,sizeOf329,underlying331,isAgg331,sizeOf331,zeroValue331,underlying332,isAgg332,sizeOf332,zeroValue332,underlying334,isAgg334,sizeOf334,zeroValue334,by kernel_rfl,by kernel_rfl,by kernel_rfl⟩
open Go.RowKit Go.Lib in
theorem Tryz.strings_Split(s sep:ByteArray)(m:Int)(w:World)(hs:s.size<4294967281)(hm:w.cell? ⟨1,0,none⟩=some (.int .i64 m))(h1:1≤sep.size):
  Calls prog 60 #[.string s,.string sep] w fun e w'=>
   e= .returned (.slice (some ⟨w.heap.size,0,none⟩) (Lib.countB s sep+1) (Lib.countB s sep+1))∧w'=w.alloc (.cells ((Lib.splitB sep 0 (Lib.countB s sep) s).map Value.string).toArray 9):=Any.strings_Split N7 (by kernel_rfl) s sep m w hs hm h1
def Tryz.rL:Go.Shelf.Ren:=⟨fun|105=>348|212=>359|99=>206|165=>360|166=>181|170=>179|169=>59|263=>364|264=>365|206=>244|240=>229|241=>366|276=>256|277=>369|n=>n,fun|9=>9|3=>3|4=>4|20=>20|0=>0|46=>247|109=>382|5=>5|72=>121|76=>214|51=>333|146=>334|53=>314|148=>388|70=>118|37=>119|75=>212|127=>163|164=>283|80=>125|n=>n,fun|n=>n⟩
theorem Tryz.P6:Go.Proofs.Lays.n105 prog rL:=⟨by kernel_rfl,kS func206,kS func348,kS func360,kS func181,kS func59,kS func179,kS func244,kS func359,kS func229,kS func366,kS func364,kS func365,kS func256,kS func369,underlying0,isAgg0,sizeOf0,zeroValue0,underlying3,isAgg3,sizeOf3,zeroValue3,underlying4,isAgg4,sizeOf4,zeroValue4,underlying5,isAgg5,sizeOf5,zeroValue5,underlying9,isAgg9,sizeOf9,zeroValue9,underlying20,isAgg20,sizeOf20,zeroValue20,underlying119,isAgg119,sizeOf119,zeroValue119,underlying247,isAgg247,sizeOf247,zeroValue247,underlying333,isAgg333,sizeOf333,zeroValue333,underlying314,isAgg314,sizeOf314,zeroValue314,underlying118,isAgg118,sizeOf118,zeroValue118,underlying121,isAgg121,sizeOf121,zeroValue121,underlying212,isAgg212,sizeOf212,zeroValue212,underlying214,isAgg214,sizeOf214,zeroValue214,underlying382,isAgg382,sizeOf382,zeroValue382,underlying163,isAgg163,sizeOf163,zeroValue163,underlying334,isAgg334,sizeOf334,zeroValue334,underlying388,isAgg388,sizeOf388,zeroValue388,underlying283,isAgg283,sizeOf283,zeroValue283⟩
theorem Tryz.qC:Builder.Extra prog rL:={sizeBuilder:=by kernel_rfl,liesBuilder:=by kernel_rfl,t5:=underlying5,a5:=isAgg5,z5:=sizeOf5,v5:=zeroValue5,infoByte:=by kernel_rfl,cellsByte:=by kernel_rfl,sizeByte:=by kernel_rfl,neB5:=by decide}
open Go.RowKit Go.Lib in
theorem Tryz.strings_Repeat(s:ByteArray)(c:Nat)(w:World)(hc:c≤9223372036854775807)(hlen:s.size*c≤140737488355328):
  Calls prog 348 #[.string s,.int .i64 c] w fun e w'=>e= .returned (.string ⟨(Lib.repeatL s.data.toList c).toArray⟩)∧Below w.heap.size w w':=Any.strings_Repeat P6 qC s c w hc hlen
def Tryz.Dy:Go.Shelf.Ren:=⟨fun|111=>11|n=>n,fun|28=>25|3=>3|4=>4|0=>0|n=>n,fun|n=>n⟩
theorem Tryz.Gj:Go.Proofs.Lays.n111 prog Dy:=⟨by kernel_rfl,kS func11,underlying0,isAgg0,sizeOf0,zeroValue0,underlying3,isAgg3,sizeOf3,zeroValue3,underlying4,isAgg4,sizeOf4,zeroValue4,underlying25,isAgg25,sizeOf25,zeroValue25⟩
open Go.RowKit Go.Lib in
theorem Tryz.slices_Equal_int(b1 o1 n c b2 o2 m d:Nat)(xs ys:List Int)(w:World)(hx:n≤xs.length)(hy:m≤ys.length)(hbig:n≤9223372036854775807)(hbig2:m≤9223372036854775807)(hc1:∀j,j<xs.length→w.cell? ⟨b1,o1+j,none⟩=some (.int .i64 (xs.getD j 0)))(hc2:∀j,j<ys.length→w.cell? ⟨b2,o2+j,none⟩=some (.int .i64 (ys.getD j 0))):
  Calls prog 11 #[.slice (some ⟨b1,o1,none⟩) n c,.slice (some ⟨b2,o2,none⟩) m d] w fun e w'=>e= .returned (.bool (xs.take n==ys.take m))∧∃q,w'=w.drewN q:=Any.slices_Equal_int Gj b1 o1 n c b2 o2 m d xs ys w hx hy hbig hbig2 hc1 hc2
open Go.RowKit Go.Lib in
theorem Tryz.slices_Equal_int_empty(a1 a2:Option Addr)(c m d:Nat)(w:World)(hbig2:m≤9223372036854775807):
  Calls prog 11 #[.slice a1 0 c,.slice a2 m d] w fun e w'=>e= .returned (.bool (decide (m=0)))∧w'=w:=Any.slices_Equal_int_empty Gj a1 a2 c m d w hbig2
def Tryz.wM:Go.Shelf.Ren:=⟨fun|25=>150|31=>209|32=>210|37=>245|n=>n,fun|22=>25|3=>3|4=>4|40=>247|0=>0|n=>n,fun|n=>n⟩
theorem Tryz.yk:Go.Proofs.Lays2.n25 prog wM:=⟨by kernel_rfl,kS func150,kS func209,kS func210,kS func245,underlying0,isAgg0,sizeOf0,zeroValue0,underlying3,isAgg3,sizeOf3,zeroValue3,underlying4,isAgg4,sizeOf4,zeroValue4,underlying25,isAgg25,sizeOf25,zeroValue25,underlying247,isAgg247,sizeOf247,zeroValue247⟩
open Go.RowKit Go.Lib in
theorem Tryz.slices_BinarySearch_int(b off n c:Nat)(zs:List Int)(x:Int)(w:World)(hz:n≤zs.length)(hbig:n<4611686018427387904)(hc:∀j,j<zs.length→w.cell? ⟨b,off+j,none⟩=some (.int .i64 (zs.getD j 0)))(hs:(zs.take n).Pairwise (· ≤ ·)):
  Calls prog 150 #[.slice (some ⟨b,off,none⟩) n c,.int .i64 x] w fun e w'=>e= .returned (.tuple #[.int .i64 ((zs.take n).countP (· <x):Nat),.bool ((zs.take n).contains x)])∧∃q,w'=w.drewN q:=Any.slices_BinarySearch_int yk b off n c zs x w hz hbig hc hs
open Go.RowKit Go.Lib in
theorem Tryz.slices_BinarySearch_int_empty(a:Option Addr)(c:Nat)(x:Int)(w:World):
  Calls prog 150 #[.slice a 0 c,.int .i64 x] w fun e w'=>e= .returned (.tuple #[.int .i64 0,.bool false])∧w'=w:=Any.slices_BinarySearch_int_empty yk a c x w
end Go.Proofs
