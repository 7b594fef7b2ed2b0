/- ChangeApplies of kingpostlaw58: part 0 of its proof (merged and shortened by program). -/
import Derived.Shelf.Strings.Builder1
import Derived.Shelf.Strings.Builder2
import Derived.Shelf.Strings.Trim
import Derived.Shelf.Small.Utf8
import Derived.Shelf.Small.Strs
import Derived.Shelf.Small.Wraps
import Derived.Shelf.Strings.BuilderF
import Derived.Shelf.Strings.BuilderK
import Derived.Shelf.Strconv.Atoi
import Derived.Shelf.Strconv.Itoa0
import Derived.Shelf.Strconv.Itoa1
import Derived.Shelf.LaysM
import Derived.Shelf.Strconv.Itoa2
import Derived.Shelf.Strconv.Itoa3
import Derived.Shelf.Strconv.AtoiErrFast
import Derived.Shelf.Strconv.ParseIntEmpty
import Derived.Shelf.Strconv.AtoiFail
import Derived.Shelf.Strconv.Clone
import Derived.Shelf.Strconv.SyntaxError
import Derived.Shelf.LaysC
import Derived.Shelf.Strconv.ToError
import Derived.Shelf.Strconv.Lower
import Derived.Shelf.Strconv.ParseUint10
import Derived.Shelf.Strconv.ParseUint10Empty
import Derived.Shelf.Strconv.ParseUint10Any
import Derived.Shelf.Strconv.ParseInt10
import Derived.Shelf.Strconv.AtoiLong
import Derived.Shelf.Strconv.AtoiInnerAll
import Derived.Shelf.Strconv.RangeError
import Derived.Shelf.Strconv.ToErrorRange
import Derived.Shelf.Strconv.AtoiAll
import Derived.Shelf.Strconv.ErrVarAll
import Derived.Shelf.Strings.Search1
import Derived.Shelf.Strings.Search2
import Derived.Shelf.Strings.Search3
import Derived.Shelf.Strings.Cut
import Derived.Shelf.Strings.Count
import Derived.Shelf.Strings.Shaped
import Derived.Shelf.Strings.Prefix
import Derived.Shelf.Strings.Split
import Derived.Shelf.Strings.SplitShaped
import Derived.Shelf.Strings.Runes
import Derived.Shelf.Strings.AsciiSet
import Derived.Shelf.Bits.Mul64
import Derived.Shelf.Strings.Repeat
import Derived.Shelf.Unicode.DecodeSlow
import Derived.Shelf.Slices.Turned
import Derived.Shelf.Slices.Reverse
import Derived.Ground.Names2Prog
import Derived.Shelf.Slices.Clone
import Derived.Shelf.Slices.SearchI
import Derived.Shelf.Slices.Delete
import Derived.Shelf.Slices.Cells
import Derived.Shelf.Slices.Empties
import Derived.Test.YtnepbjnlmkppmaaGreatDoorProg
set_option linter.unusedVariables false
set_option linter.unusedSimpArgs false
set_option linter.defProp false
set_option maxHeartbeats 8000000
set_option maxRecDepth 100000
namespace Go.Proofs
theorem kS{α:Type}{a:Option α}{x y:α}(h:a=some x)(e:x=y:=by kernel_rfl):a=some y:=h.trans (congrArg some e)
open Tryz
def Tryz.Dq:Go.Shelf.Ren:=⟨fun|160=>333|232=>345|231=>344|227=>346|234=>348|233=>347|236=>350|235=>349|228=>353|271=>355|151=>354|197=>238|120=>360|152=>359|260=>263|137=>362|119=>363|224=>266|225=>265|217=>264|266=>295|n=>n,fun|9=>9|4=>4|3=>3|5=>5|117=>361|116=>360|0=>0|124=>364|21=>21|105=>264|46=>238|119=>314|139=>317|138=>316|n=>n,fun|3=>2|4=>3|n=>n⟩
theorem Tryz.Rd:Go.Proofs.Lays.n160 prog Dq:=⟨by kernel_rfl,kS func363,kS func360,kS func362,kS func354,kS func359,kS func333,kS func238,kS func264,kS func266,kS func265,kS func346,kS func353,kS func344,kS func345,kS func347,kS func348,kS func349,kS func350,kS func263,kS func295,kS func355,underlying0,isAgg0,sizeOf0,zeroValue0,underlying3,isAgg3,sizeOf3,zeroValue3,underlying4,isAgg4,sizeOf4,zeroValue4,underlying5,isAgg5,sizeOf5,zeroValue5,underlying9,isAgg9,sizeOf9,zeroValue9,underlying21,isAgg21,sizeOf21,zeroValue21,underlying238,isAgg238,sizeOf238,zeroValue238,underlying264,isAgg264,sizeOf264,zeroValue264,underlying360,isAgg360,sizeOf360,underlying361,isAgg361,sizeOf361,zeroValue361,underlying314,isAgg314,sizeOf314,underlying364,isAgg364,sizeOf364,zeroValue364,underlying316,isAgg316,sizeOf316,zeroValue316,underlying317,isAgg317,sizeOf317,zeroValue317,by kernel_rfl,by kernel_rfl⟩
def Tryz.DO:Go.Shelf.Ren:=⟨fun|103=>286|210=>312|206=>249|n=>n,fun|9=>9|4=>4|24=>76|3=>3|n=>n,fun|n=>n⟩
theorem Tryz.Qd:Go.Proofs.Lays.n103 prog DO:=⟨by kernel_rfl,kS func286,kS func249,kS func312,underlying3,isAgg3,sizeOf3,zeroValue3,underlying4,isAgg4,sizeOf4,zeroValue4,underlying9,isAgg9,sizeOf9,zeroValue9,underlying76,isAgg76,sizeOf76,zeroValue76⟩
open Go.RowKit in
theorem Tryz.strings_CutPrefix(s p:ByteArray)(w:World):
  Calls prog 286 #[.string s,.string p] w fun e w'=>e= .returned (.tuple #[.string ⟨(Lib.trimPrefix s.data.toList p.data.toList).toArray⟩,.bool (Lib.hasPrefix s.data.toList p.data.toList)])∧w'=w:=Any.strings_CutPrefix Qd s p w
def Tryz.CM:Go.Shelf.Ren:=⟨fun|122=>207|215=>250|n=>n,fun|3=>3|4=>4|n=>n,fun|n=>n⟩
theorem Tryz.Rn:Go.Proofs.Lays.n122 prog CM:=⟨by kernel_rfl,kS func207,kS func250,underlying3,isAgg3,sizeOf3,zeroValue3,underlying4,isAgg4,sizeOf4,zeroValue4⟩
open Go.RowKit in
theorem Tryz.cmp_Compare_int(x y:Int)(w:World):
  Calls prog 207 #[.int .i64 x,.int .i64 y] w fun e w'=>e= .returned (.int .i64 (Lib.compareInt x y))∧w'=w:=Any.cmp_Compare_int Rn x y w
def Tryz.CL:Go.Shelf.Ren:=⟨fun|172=>180|244=>241|245=>242|247=>268|279=>269|280=>270|281=>271|282=>272|287=>297|316=>298|171=>170|205=>299|321=>324|322=>325|243=>227|246=>259|283=>281|284=>282|285=>283|286=>284|129=>307|317=>306|318=>308|319=>309|320=>310|337=>331|338=>332|n=>n,fun|9=>9|3=>3|75=>193|76=>195|4=>4|5=>5|167=>286|37=>83|0=>0|85=>287|2=>2|168=>289|53=>299|175=>321|46=>238|210=>325|127=>136|145=>347|143=>345|21=>21|171=>298|173=>302|212=>333|51=>318|20=>20|213=>334|232=>356|233=>357|80=>89|n=>n,fun|15=>4|16=>5|17=>6|18=>7|19=>8|n=>n⟩
theorem Tryz.QE:Go.Proofs.Lays.n172 prog CL:=⟨by kernel_rfl,kS func307,kS func170,kS func180,kS func299,kS func227,kS func241,kS func242,kS func259,kS func268,kS func269,kS func270,kS func271,kS func272,kS func281,kS func282,kS func283,kS func284,kS func297,kS func298,kS func306,kS func308,kS func309,kS func310,kS func324,kS func325,kS func331,kS func332,underlying0,isAgg0,sizeOf0,zeroValue0,underlying2,isAgg2,sizeOf2,zeroValue2,underlying3,isAgg3,sizeOf3,zeroValue3,underlying4,isAgg4,sizeOf4,zeroValue4,underlying5,isAgg5,sizeOf5,zeroValue5,underlying9,isAgg9,sizeOf9,zeroValue9,underlying20,isAgg20,sizeOf20,zeroValue20,underlying21,isAgg21,sizeOf21,zeroValue21,underlying83,isAgg83,sizeOf83,zeroValue83,underlying238,isAgg238,sizeOf238,zeroValue238,underlying318,isAgg318,sizeOf318,zeroValue318,underlying299,isAgg299,sizeOf299,zeroValue299,underlying193,isAgg193,sizeOf193,zeroValue193,underlying195,isAgg195,sizeOf195,zeroValue195,underlying287,isAgg287,sizeOf287,zeroValue287,underlying136,isAgg136,sizeOf136,zeroValue136,underlying345,isAgg345,sizeOf345,zeroValue345,underlying347,isAgg347,sizeOf347,zeroValue347,underlying286,isAgg286,sizeOf286,zeroValue286,underlying289,isAgg289,sizeOf289,zeroValue289,underlying298,isAgg298,sizeOf298,zeroValue298,underlying302,isAgg302,sizeOf302,zeroValue302,underlying321,isAgg321,sizeOf321,zeroValue321,underlying325,isAgg325,sizeOf325,zeroValue325,underlying333,isAgg333,sizeOf333,zeroValue333,underlying334,isAgg334,sizeOf334,underlying356,isAgg356,sizeOf356,zeroValue356,underlying357,isAgg357,sizeOf357,zeroValue357,by kernel_rfl,by kernel_rfl,by kernel_rfl,by kernel_rfl,by kernel_rfl⟩
open Go.RowKit in
theorem Tryz.strconv_Atoi(s:ByteArray)(n:Int)(hl:s.size≤18)(h:Lib.atoi s.data.toList=some n)(w:World):
  Calls prog 180 #[.string s] w fun e w'=>e= .returned (.tuple #[.int .i64 n,.nilIface])∧∃t,w'=Lib.bytesWorld w 5 t:=Any.strconv_Atoi QE s n hl h w
def Tryz.Ag:Go.Shelf.Ren:=⟨fun|171=>170|243=>227|246=>259|283=>281|284=>282|285=>283|286=>284|129=>307|317=>306|318=>308|319=>309|320=>310|337=>331|338=>332|n=>n,fun|3=>3|9=>9|2=>2|4=>4|171=>298|0=>0|53=>299|37=>83|5=>5|173=>302|212=>333|51=>318|20=>20|213=>334|46=>238|232=>356|233=>357|n=>n,fun|17=>6|18=>7|19=>8|n=>n⟩
theorem Tryz.Pg:Go.Proofs.LaysM.n171 prog Ag:={mixed:=by kernel_rfl,f129:=kS func307,f171:=kS func170,f243:=kS func227,f246:=kS func259,f283:=kS func281,f284:=kS func282,f285:=kS func283,f286:=kS func284,f317:=kS func306,f318:=kS func308,f319:=kS func309,f320:=kS func310,f337:=kS func331,f338:=kS func332,t0:=underlying0,a0:=isAgg0,z0:=sizeOf0,v0:=zeroValue0,t2:=underlying2,a2:=isAgg2,z2:=sizeOf2,v2:=zeroValue2,t3:=underlying3,a3:=isAgg3,z3:=sizeOf3,v3:=zeroValue3,t4:=underlying4,a4:=isAgg4,z4:=sizeOf4,v4:=zeroValue4,t5:=underlying5,a5:=isAgg5,z5:=sizeOf5,v5:=zeroValue5,t9:=underlying9,a9:=isAgg9,z9:=sizeOf9,v9:=zeroValue9,t20:=underlying20,a20:=isAgg20,z20:=sizeOf20,v20:=zeroValue20,t37:=underlying83,a37:=isAgg83,z37:=sizeOf83,v37:=zeroValue83,t46:=underlying238,a46:=isAgg238,z46:=sizeOf238,v46:=zeroValue238,t51:=underlying318,a51:=isAgg318,z51:=sizeOf318,v51:=zeroValue318,t53:=underlying299,a53:=isAgg299,z53:=sizeOf299,v53:=zeroValue299,t171:=underlying298,a171:=isAgg298,z171:=sizeOf298,v171:=zeroValue298,t173:=underlying302,a173:=isAgg302,z173:=sizeOf302,v173:=zeroValue302,t212:=underlying333,a212:=isAgg333,z212:=sizeOf333,v212:=zeroValue333,t213:=underlying334,a213:=isAgg334,z213:=sizeOf334,t232:=underlying356,a232:=isAgg356,z232:=sizeOf356,v232:=zeroValue356,t233:=underlying357,a233:=isAgg357,z233:=sizeOf357,v233:=zeroValue357,g17:=by kernel_rfl,g18:=by kernel_rfl,g19:=by kernel_rfl,i0:=by kernel_rfl,i2:=by kernel_rfl,i3:=by kernel_rfl,i4:=by kernel_rfl,i5:=by kernel_rfl,i9:=by kernel_rfl,i20:=by kernel_rfl,i37:=by kernel_rfl,i46:=by kernel_rfl,i51:=by kernel_rfl,i53:=by kernel_rfl,i171:=by kernel_rfl,i173:=by kernel_rfl,i212:=by kernel_rfl,i232:=by kernel_rfl,i233:=by kernel_rfl,m17:=by kernel_rfl,m18:=by kernel_rfl,m19:=by kernel_rfl}
open Go.RowKit Go.Sort Go.Lib in
theorem Tryz.strconv_Itoa(n:Int)(h0: -9223372036854775808≤n)(h1:n≤9223372036854775807)(w:World)(htab:Lib.TabIs prog w "internal/strconv.uint64pow10" .u64 Lib.pow10Tab):
  Calls prog 170 #[.int .i64 n] w fun e w'=>e= .returned (.string ⟨(Lib.itoa n).toArray⟩)∧∃k os,w'=grow (w.drewN k) os:=Any.strconv_Itoa Pg n h0 h1 w htab
def Tryz.AH:Go.Shelf.Ren:=⟨fun|172=>180|244=>241|245=>242|247=>268|279=>269|280=>270|281=>271|282=>272|287=>297|316=>298|171=>170|205=>299|321=>324|322=>325|243=>227|246=>259|283=>281|284=>282|285=>283|286=>284|129=>307|317=>306|318=>308|319=>309|320=>310|337=>331|338=>332|n=>n,fun|9=>9|3=>3|75=>193|76=>195|4=>4|5=>5|167=>286|37=>83|0=>0|85=>287|2=>2|168=>289|53=>299|175=>321|46=>238|210=>325|127=>136|145=>347|143=>345|21=>21|171=>298|173=>302|212=>333|51=>318|20=>20|213=>334|232=>356|233=>357|80=>89|n=>n,fun|15=>4|16=>5|17=>6|18=>7|19=>8|n=>n⟩
theorem Tryz.wD:Go.Proofs.LaysC.n172 prog AH:={mixed:=by kernel_rfl,f129:=kS func307,f171:=kS func170,f172:=kS func180,f205:=kS func299,f243:=kS func227,f244:=kS func241,f245:=kS func242,f246:=kS func259,f247:=kS func268,f279:=kS func269,f280:=kS func270,f281:=kS func271,f282:=kS func272,f283:=kS func281,f284:=kS func282,f285:=kS func283,f286:=kS func284,f287:=kS func297,f316:=kS func298,f317:=kS func306,f318:=kS func308,f319:=kS func309,f320:=kS func310,f321:=kS func324,f322:=kS func325,f337:=kS func331,f338:=kS func332,t0:=underlying0,a0:=isAgg0,z0:=sizeOf0,v0:=zeroValue0,t2:=underlying2,a2:=isAgg2,z2:=sizeOf2,v2:=zeroValue2,t3:=underlying3,a3:=isAgg3,z3:=sizeOf3,v3:=zeroValue3,t4:=underlying4,a4:=isAgg4,z4:=sizeOf4,v4:=zeroValue4,t5:=underlying5,a5:=isAgg5,z5:=sizeOf5,v5:=zeroValue5,t9:=underlying9,a9:=isAgg9,z9:=sizeOf9,v9:=zeroValue9,t20:=underlying20,a20:=isAgg20,z20:=sizeOf20,v20:=zeroValue20,t21:=underlying21,a21:=isAgg21,z21:=sizeOf21,v21:=zeroValue21,t37:=underlying83,a37:=isAgg83,z37:=sizeOf83,v37:=zeroValue83,t46:=underlying238,a46:=isAgg238,z46:=sizeOf238,v46:=zeroValue238,t51:=underlying318,a51:=isAgg318,z51:=sizeOf318,v51:=zeroValue318,t53:=underlying299,a53:=isAgg299,z53:=sizeOf299,v53:=zeroValue299,t75:=underlying193,a75:=isAgg193,z75:=sizeOf193,v75:=zeroValue193,t76:=underlying195,a76:=isAgg195,z76:=sizeOf195,v76:=zeroValue195,t85:=underlying287,a85:=isAgg287,z85:=sizeOf287,v85:=zeroValue287,t127:=underlying136,a127:=isAgg136,z127:=sizeOf136,v127:=zeroValue136,t143:=underlying345,a143:=isAgg345,z143:=sizeOf345,v143:=zeroValue345,t145:=underlying347,a145:=isAgg347,z145:=sizeOf347,v145:=zeroValue347,t167:=underlying286,a167:=isAgg286,z167:=sizeOf286,v167:=zeroValue286,t168:=underlying289,a168:=isAgg289,z168:=sizeOf289,v168:=zeroValue289,t171:=underlying298,a171:=isAgg298,z171:=sizeOf298,v171:=zeroValue298,t173:=underlying302,a173:=isAgg302,z173:=sizeOf302,v173:=zeroValue302,t175:=underlying321,a175:=isAgg321,z175:=sizeOf321,v175:=zeroValue321,t210:=underlying325,a210:=isAgg325,z210:=sizeOf325,v210:=zeroValue325,t212:=underlying333,a212:=isAgg333,z212:=sizeOf333,v212:=zeroValue333,t213:=underlying334,a213:=isAgg334,z213:=sizeOf334,t232:=underlying356,a232:=isAgg356,z232:=sizeOf356,v232:=zeroValue356,t233:=underlying357,a233:=isAgg357,z233:=sizeOf357,v233:=zeroValue357,g15:=by kernel_rfl,g16:=by kernel_rfl,g17:=by kernel_rfl,g18:=by kernel_rfl,g19:=by kernel_rfl,t80:=underlying89,a80:=isAgg89,z80:=sizeOf89,v80:=zeroValue89,i0:=by kernel_rfl,i2:=by kernel_rfl,i3:=by kernel_rfl,i4:=by kernel_rfl,i5:=by kernel_rfl,i9:=by kernel_rfl,i20:=by kernel_rfl,i21:=by kernel_rfl,i37:=by kernel_rfl,i46:=by kernel_rfl,i51:=by kernel_rfl,i53:=by kernel_rfl,i75:=by kernel_rfl,i76:=by kernel_rfl,i80:=by kernel_rfl,i85:=by kernel_rfl,i127:=by kernel_rfl,i143:=by kernel_rfl,i145:=by kernel_rfl,i167:=by kernel_rfl,i168:=by kernel_rfl,i171:=by kernel_rfl,i173:=by kernel_rfl,i175:=by kernel_rfl,i210:=by kernel_rfl,i212:=by kernel_rfl,i232:=by kernel_rfl,i233:=by kernel_rfl,m15:=by kernel_rfl,m16:=by kernel_rfl,m17:=by kernel_rfl,m18:=by kernel_rfl,m19:=by kernel_rfl,c0:=by kernel_rfl,c2:=by kernel_rfl,c3:=by kernel_rfl,c4:=by kernel_rfl,c5:=by kernel_rfl,c9:=by kernel_rfl,c20:=by kernel_rfl,c21:=by kernel_rfl,c37:=by kernel_rfl,c46:=by kernel_rfl,c51:=by kernel_rfl,c53:=by kernel_rfl,c75:=by kernel_rfl,c76:=by kernel_rfl,c80:=by kernel_rfl,c85:=by kernel_rfl,c127:=by kernel_rfl,c143:=by kernel_rfl,c145:=by kernel_rfl,c167:=by kernel_rfl,c168:=by kernel_rfl,c171:=by kernel_rfl,c173:=by kernel_rfl,c175:=by kernel_rfl,c210:=by kernel_rfl,c212:=by kernel_rfl,c213:=by kernel_rfl,c232:=by kernel_rfl,c233:=by kernel_rfl}
open Go.RowKit in
theorem Tryz.strconv_Atoi_ok(s:ByteArray)(hmax:s.size≤9223372036854775806)(v:Int)(h:Lib.atoiAll s.data.toList= .ok v)(w:World):
  Calls prog 180 #[.string s] w fun e w'=>e= .returned (.tuple #[.int .i64 v,.nilIface])∧(w'=w∨∃t,w'=Lib.bytesWorld w 5 t):=Any.strconv_Atoi_ok wD s hmax v h w
open Go.RowKit in
theorem Tryz.strconv_Atoi_syntax_var(s:ByteArray)(hlim:s.size≤281474976710656)(h:Lib.atoiAll s.data.toList=Lib.atoiAll [])(tp:TypeId)(p:Value)(w:World)(hvar:w.var? prog "strconv.ErrSyntax" =some #[.iface tp p]):
  Calls prog 180 #[.string s] w fun e w'=>∃N,e= .returned (.tuple #[.int .i64 0,.iface 289 (.pointer (some ⟨N,0,none⟩))])∧w.heap.size≤N∧w'.heap[N]?=some (.cells #[.string ⟨#[65,116,111,105]⟩,.string s,.iface tp p] 325 (0,0))∧Below w.heap.size w w':=Any.strconv_Atoi_syntax_var wD s hlim (h.trans rfl) tp p w hvar
open Go.RowKit in
theorem Tryz.strconv_Atoi_range_var(s:ByteArray)(hlim:s.size≤281474976710656)(h:Lib.atoiAll s.data.toList= .range)(tp:TypeId)(p:Value)(w:World)(hvar:w.var? prog "strconv.ErrRange" =some #[.iface tp p]):
  Calls prog 180 #[.string s] w fun e w'=>∃N,e= .returned (.tuple #[.int .i64 (Lib.atoiSat s.data.toList),.iface 289 (.pointer (some ⟨N,0,none⟩))])∧w.heap.size≤N∧w'.heap[N]?=some (.cells #[.string ⟨#[65,116,111,105]⟩,.string s,.iface tp p] 325 (0,0))∧Below w.heap.size w w':=Any.strconv_Atoi_range_var wD s hlim h tp p w hvar
def Tryz.Dm:Go.Shelf.Ren:=⟨fun|145=>285|220=>311|219=>240|217=>264|225=>265|224=>266|267=>267|266=>295|314=>296|n=>n,fun|9=>9|4=>4|59=>304|3=>3|5=>5|46=>238|146=>319|51=>318|n=>n,fun|1=>1|n=>n⟩
theorem Tryz.QT:Go.Proofs.Lays.n145 prog Dm:=⟨by kernel_rfl,kS func285,kS func264,kS func240,kS func311,kS func266,kS func265,kS func295,kS func267,kS func296,underlying3,isAgg3,sizeOf3,zeroValue3,underlying4,isAgg4,sizeOf4,zeroValue4,underlying5,isAgg5,sizeOf5,zeroValue5,underlying9,isAgg9,sizeOf9,zeroValue9,underlying238,isAgg238,sizeOf238,zeroValue238,underlying318,isAgg318,sizeOf318,zeroValue318,underlying304,isAgg304,sizeOf304,zeroValue304,underlying319,isAgg319,sizeOf319,zeroValue319,by kernel_rfl⟩
open Go.RowKit Go.Lib in
theorem Tryz.strings_Cut(s sep:ByteArray)(m:Int)(w:World)(hs:s.size<4294967281)(hm:w.cell? ⟨1,0,none⟩=some (.int .i64 m)):
  Calls prog 285 #[.string s,.string sep] w fun e w'=>e= .returned (.tuple #[.string ⟨(Lib.cut s.data.toList sep.data.toList).1.toArray⟩,.string ⟨(Lib.cut s.data.toList sep.data.toList).2.1.toArray⟩,.bool (Lib.cut s.data.toList sep.data.toList).2.2])∧∃n,w'=w.drewN n:=Any.strings_Cut QT s sep m w hs hm
def Tryz.FF:Go.Shelf.Ren:=⟨fun|99=>199|206=>249|n=>n,fun|9=>9|4=>4|3=>3|n=>n,fun|n=>n⟩
theorem Tryz.Ue:Go.Proofs.Lays.n99 prog FF:=⟨by kernel_rfl,kS func199,kS func249,underlying3,isAgg3,sizeOf3,zeroValue3,underlying4,isAgg4,sizeOf4,zeroValue4,underlying9,isAgg9,sizeOf9,zeroValue9⟩
open Go.RowKit Go.Lib in
theorem Tryz.strings_HasPrefix(s p:ByteArray)(w:World):
  Calls prog 199 #[.string s,.string p] w fun e w'=>e= .returned (.bool (Lib.hasPrefix s.data.toList p.data.toList))∧w'=w:=Any.strings_HasPrefix Ue s p w
def Tryz.EN:Go.Shelf.Ren:=⟨fun|101=>248|208=>275|206=>249|n=>n,fun|9=>9|4=>4|3=>3|n=>n,fun|n=>n⟩
theorem Tryz.PH:Go.Proofs.Lays.n101 prog EN:=⟨by kernel_rfl,kS func248,kS func249,kS func275,underlying3,isAgg3,sizeOf3,zeroValue3,underlying4,isAgg4,sizeOf4,zeroValue4,underlying9,isAgg9,sizeOf9,zeroValue9⟩
open Go.RowKit Go.Lib in
theorem Tryz.strings_TrimPrefix(s p:ByteArray)(w:World):
  Calls prog 248 #[.string s,.string p] w fun e w'=>e= .returned (.string ⟨(Lib.trimPrefix s.data.toList p.data.toList).toArray⟩)∧w'=w:=Any.strings_TrimPrefix PH s p w
def Tryz.Er:Go.Shelf.Ren:=⟨fun|146=>46|221=>105|268=>177|138=>178|143=>179|195=>237|197=>238|218=>239|219=>240|260=>263|217=>264|225=>265|224=>266|267=>267|266=>295|314=>296|n=>n,fun|9=>9|31=>80|3=>3|4=>4|0=>0|105=>264|21=>21|5=>5|46=>238|119=>314|139=>317|138=>316|146=>319|51=>318|n=>n,fun|1=>1|3=>2|4=>3|n=>n⟩
theorem Tryz.QL:Go.Proofs.Lays.n146 prog Er:=⟨by kernel_rfl,kS func178,kS func179,kS func46,kS func237,kS func238,kS func264,kS func239,kS func240,kS func105,kS func266,kS func265,kS func263,kS func295,kS func267,kS func177,kS func296,underlying0,isAgg0,sizeOf0,zeroValue0,underlying3,isAgg3,sizeOf3,zeroValue3,underlying4,isAgg4,sizeOf4,zeroValue4,underlying5,isAgg5,sizeOf5,zeroValue5,underlying9,isAgg9,sizeOf9,zeroValue9,underlying21,isAgg21,sizeOf21,zeroValue21,underlying80,isAgg80,sizeOf80,zeroValue80,underlying238,isAgg238,sizeOf238,zeroValue238,underlying318,isAgg318,sizeOf318,zeroValue318,underlying264,isAgg264,sizeOf264,zeroValue264,underlying314,isAgg314,sizeOf314,underlying316,isAgg316,sizeOf316,zeroValue316,underlying317,isAgg317,sizeOf317,zeroValue317,underlying319,isAgg319,sizeOf319,zeroValue319,by kernel_rfl,by kernel_rfl,by kernel_rfl⟩
open Go.RowKit Go.Lib in
theorem Tryz.strings_Split(s sep:ByteArray)(m:Int)(w:World)(hs:s.size<4294967281)(hm:w.cell? ⟨1,0,none⟩=some (.int .i64 m))(h1:1≤sep.size):
  Calls prog 46 #[.string s,.string sep] w fun e w'=>
   e= .returned (.slice (some ⟨w.heap.size,0,none⟩) (Lib.countB s sep+1) (Lib.countB s sep+1))∧w'=w.alloc (.cells ((Lib.splitB sep 0 (Lib.countB s sep) s).map Value.string).toArray 9):=Any.strings_Split QL (by kernel_rfl) s sep m w hs hm h1
def Tryz.tG:Go.Shelf.Ren:=⟨fun|105=>337|212=>351|99=>199|165=>352|166=>169|170=>167|169=>30|263=>356|264=>357|206=>249|240=>226|241=>358|276=>258|277=>361|n=>n,fun|9=>9|3=>3|4=>4|20=>20|0=>0|46=>238|109=>365|5=>5|72=>85|76=>195|51=>318|146=>319|53=>299|148=>371|70=>82|37=>83|75=>193|127=>136|164=>277|80=>89|n=>n,fun|n=>n⟩
theorem Tryz.Ry:Go.Proofs.Lays.n105 prog tG:=⟨by kernel_rfl,kS func199,kS func337,kS func352,kS func169,kS func30,kS func167,kS func249,kS func351,kS func226,kS func358,kS func356,kS func357,kS func258,kS func361,underlying0,isAgg0,sizeOf0,zeroValue0,underlying3,isAgg3,sizeOf3,zeroValue3,underlying4,isAgg4,sizeOf4,zeroValue4,underlying5,isAgg5,sizeOf5,zeroValue5,underlying9,isAgg9,sizeOf9,zeroValue9,underlying20,isAgg20,sizeOf20,zeroValue20,underlying83,isAgg83,sizeOf83,zeroValue83,underlying238,isAgg238,sizeOf238,zeroValue238,underlying318,isAgg318,sizeOf318,zeroValue318,underlying299,isAgg299,sizeOf299,zeroValue299,underlying82,isAgg82,sizeOf82,zeroValue82,underlying85,isAgg85,sizeOf85,zeroValue85,underlying193,isAgg193,sizeOf193,zeroValue193,underlying195,isAgg195,sizeOf195,zeroValue195,underlying365,isAgg365,sizeOf365,zeroValue365,underlying136,isAgg136,sizeOf136,zeroValue136,underlying319,isAgg319,sizeOf319,zeroValue319,underlying371,isAgg371,sizeOf371,zeroValue371,underlying277,isAgg277,sizeOf277,zeroValue277⟩
theorem Tryz.rQ:Builder.Extra prog tG:={sizeBuilder:=by kernel_rfl,liesBuilder:=by kernel_rfl,t5:=underlying5,a5:=isAgg5,z5:=sizeOf5,v5:=zeroValue5,infoByte:=by kernel_rfl,cellsByte:=by kernel_rfl,sizeByte:=by kernel_rfl,neB5:=by decide}
open Go.RowKit Go.Lib in
theorem Tryz.strings_Repeat(s:ByteArray)(c:Nat)(w:World)(hc:c≤9223372036854775807)(hlen:s.size*c≤140737488355328):
  Calls prog 337 #[.string s,.int .i64 c] w fun e w'=>e= .returned (.string ⟨(Lib.repeatL s.data.toList c).toArray⟩)∧Below w.heap.size w w':=Any.strings_Repeat Ry rQ s c w hc hlen
def Tryz.xA:Go.Shelf.Ren:=⟨fun|16=>95|n=>n,fun|24=>80|9=>9|4=>4|n=>n,fun|n=>n⟩
theorem Tryz.J1:Go.Proofs.Lays2.n16 prog xA:=⟨by kernel_rfl,kS func95,underlying4,isAgg4,sizeOf4,zeroValue4,underlying9,isAgg9,sizeOf9,zeroValue9,underlying80,isAgg80,sizeOf80,zeroValue80,by kernel_rfl⟩
open Go.RowKit Go.Lib in
theorem Tryz.slices_Clone_string(b off n c:Nat)(zs:List ByteArray)(w:World)(hz:n≤zs.length)(hbig:n*16≤140737488355328)(hc:∀j,j<zs.length→w.cell? ⟨b,off+j,none⟩=some (.string (zs.getD j ByteArray.empty))):
  Calls prog 95 #[.slice (some ⟨b,off,none⟩) n c] w fun e w'=>∃v',e= .returned v'∧w'.ownsRow w.heap.size 9 1 v' n ((zs.take n).map (Value.string))∧v'≠ .slice none 0 0∧Below w.heap.size w w':=Any.slices_Clone_string J1 b off n c zs w hz hbig hc
def Tryz.xK:Go.Shelf.Ren:=⟨fun|25=>133|31=>202|32=>203|37=>250|n=>n,fun|22=>25|3=>3|4=>4|40=>238|0=>0|n=>n,fun|n=>n⟩
theorem Tryz.yC:Go.Proofs.Lays2.n25 prog xK:=⟨by kernel_rfl,kS func133,kS func202,kS func203,kS func250,underlying0,isAgg0,sizeOf0,zeroValue0,underlying3,isAgg3,sizeOf3,zeroValue3,underlying4,isAgg4,sizeOf4,zeroValue4,underlying25,isAgg25,sizeOf25,zeroValue25,underlying238,isAgg238,sizeOf238,zeroValue238⟩
open Go.RowKit Go.Lib in
theorem Tryz.slices_BinarySearch_int(b off n c:Nat)(zs:List Int)(x:Int)(w:World)(hz:n≤zs.length)(hbig:n<4611686018427387904)(hc:∀j,j<zs.length→w.cell? ⟨b,off+j,none⟩=some (.int .i64 (zs.getD j 0)))(hs:(zs.take n).Pairwise (· ≤ ·)):
  Calls prog 133 #[.slice (some ⟨b,off,none⟩) n c,.int .i64 x] w fun e w'=>e= .returned (.tuple #[.int .i64 ((zs.take n).countP (· <x):Nat),.bool ((zs.take n).contains x)])∧∃q,w'=w.drewN q:=Any.slices_BinarySearch_int yC b off n c zs x w hz hbig hc hs
open Go.RowKit Go.Lib in
theorem Tryz.slices_BinarySearch_int_empty(a:Option Addr)(c:Nat)(x:Int)(w:World):
  Calls prog 133 #[.slice a 0 c,.int .i64 x] w fun e w'=>e= .returned (.tuple #[.int .i64 0,.bool false])∧w'=w:=Any.slices_BinarySearch_int_empty yC a c x w
end Go.Proofs
