/- ChangeLogs of kingpostlaw58: part 0 of its proof (merged and shortened by program). -/
import Derived.Shelf.Strings.Trim
import Derived.Shelf.Small.Utf8
import Derived.Shelf.Small.Wraps
import Derived.Shelf.Strings.BuilderK
import Derived.Shelf.Strconv.Itoa3
import Derived.Shelf.Strconv.ErrVarAll
import Derived.Shelf.Strings.Shaped
import Derived.Shelf.Strings.SplitShaped
import Derived.Shelf.Strings.Runes
import Derived.Shelf.Strings.AsciiSet
import Derived.Shelf.Strings.Repeat
import Derived.Shelf.Unicode.DecodeSlow
import Derived.Shelf.Slices.Turned
import Derived.Shelf.Slices.Clone
import Derived.Shelf.Slices.Cells
import Derived.Shelf.Slices.Empties
import Derived.Shelf.Slices.Empties2
import Derived.Test.YtalhfkdhdggdaaaGreatDoorProg
set_option linter.unusedVariables false
set_option linter.unusedSimpArgs false
set_option linter.defProp false
set_option maxHeartbeats 8000000
set_option maxRecDepth 100000
namespace Go.Proofs
theorem kLay{p:Prop}(h:p:=by repeat' first|kernel_rfl|decide|intro _|constructor):p:=h
open Tryz
def Tryz.a1u:Go.Shelf.Ren:=⟨fun|160=>360|232=>372|231=>371|227=>373|234=>375|233=>374|236=>377|235=>376|228=>380|271=>382|151=>381|197=>235|120=>387|152=>386|260=>274|137=>389|119=>390|224=>277|225=>276|217=>275|266=>306|n=>n,fun|9=>9|4=>4|3=>3|5=>5|117=>380|116=>379|0=>0|124=>383|21=>21|105=>254|46=>278|119=>315|139=>318|138=>317|n=>n,fun|3=>2|4=>3|n=>n⟩
theorem Tryz.a9R:Go.Proofs.Lays.n160 prog a1u:=kLay
def Tryz.a3B:Go.Shelf.Ren:=⟨fun|103=>316|210=>341|206=>254|n=>n,fun|9=>9|4=>4|24=>104|3=>3|n=>n,fun|n=>n⟩
theorem Tryz.b25:Go.Proofs.Lays.n103 prog a3B:=kLay
open Go.RowKit in
theorem Tryz.strings_CutPrefix(s p:ByteArray)(w:World):
  Calls prog 316 #[.string s,.string p] w fun e w'=>e= .returned (.tuple #[.string ⟨(Lib.trimPrefix s.data.toList p.data.toList).toArray⟩,.bool (Lib.hasPrefix s.data.toList p.data.toList)])∧w'=w:=Any.strings_CutPrefix b25 s p w
def Tryz.a2w:Go.Shelf.Ren:=⟨fun|122=>260|215=>300|n=>n,fun|3=>3|4=>4|n=>n,fun|n=>n⟩
theorem Tryz.b1o:Go.Proofs.Lays.n122 prog a2w:=kLay
open Go.RowKit in
theorem Tryz.cmp_Compare_int(x y:Int)(w:World):
  Calls prog 260 #[.int .i64 x,.int .i64 y] w fun e w'=>e= .returned (.int .i64 (Lib.compareInt x y))∧w'=w:=Any.cmp_Compare_int b1o x y w
def Tryz.a2U:Go.Shelf.Ren:=⟨fun|172=>168|244=>238|245=>239|247=>279|279=>280|280=>281|281=>282|282=>283|287=>308|316=>309|171=>179|205=>310|321=>333|322=>334|243=>246|246=>293|283=>311|284=>312|285=>313|286=>314|129=>336|317=>335|318=>337|319=>338|320=>339|337=>358|338=>359|n=>n,fun|9=>9|3=>3|75=>185|76=>186|4=>4|5=>5|167=>290|37=>110|0=>0|85=>291|2=>2|168=>293|53=>322|175=>323|46=>278|210=>327|127=>156|145=>354|143=>352|21=>21|171=>329|173=>332|212=>356|51=>319|20=>20|213=>357|232=>375|233=>376|80=>116|n=>n,fun|15=>4|16=>5|17=>6|18=>7|19=>8|n=>n⟩
theorem Tryz.a9M:Go.Proofs.Lays.n172 prog a2U:=kLay
open Go.RowKit in
theorem Tryz.strconv_Atoi(s:ByteArray)(n:Int)(hl:s.size≤18)(h:Lib.atoi s.data.toList=some n)(w:World):
  Calls prog 168 #[.string s] w fun e w'=>e= .returned (.tuple #[.int .i64 n,.nilIface])∧∃t,w'=Lib.bytesWorld w 5 t:=Any.strconv_Atoi a9M s n hl h w
def Tryz.a1G:Go.Shelf.Ren:=⟨fun|171=>179|243=>246|246=>293|283=>311|284=>312|285=>313|286=>314|129=>336|317=>335|318=>337|319=>338|320=>339|337=>358|338=>359|n=>n,fun|3=>3|9=>9|2=>2|4=>4|171=>329|0=>0|53=>322|37=>110|5=>5|173=>332|212=>356|51=>319|20=>20|213=>357|46=>278|232=>375|233=>376|n=>n,fun|17=>6|18=>7|19=>8|n=>n⟩
theorem Tryz.a7a:Go.Proofs.LaysM.n171 prog a1G:=kLay
open Go.RowKit Go.Sort Go.Lib in
theorem Tryz.strconv_Itoa(n:Int)(h0: -9223372036854775808≤n)(h1:n≤9223372036854775807)(w:World)(htab:Lib.TabIs prog w "internal/strconv.uint64pow10" .u64 Lib.pow10Tab):
  Calls prog 179 #[.int .i64 n] w fun e w'=>e= .returned (.string ⟨(Lib.itoa n).toArray⟩)∧∃k os,w'=grow (w.drewN k) os:=Any.strconv_Itoa a7a n h0 h1 w htab
def Tryz.a1X:Go.Shelf.Ren:=⟨fun|172=>168|244=>238|245=>239|247=>279|279=>280|280=>281|281=>282|282=>283|287=>308|316=>309|171=>179|205=>310|321=>333|322=>334|243=>246|246=>293|283=>311|284=>312|285=>313|286=>314|129=>336|317=>335|318=>337|319=>338|320=>339|337=>358|338=>359|n=>n,fun|9=>9|3=>3|75=>185|76=>186|4=>4|5=>5|167=>290|37=>110|0=>0|85=>291|2=>2|168=>293|53=>322|175=>323|46=>278|210=>327|127=>156|145=>354|143=>352|21=>21|171=>329|173=>332|212=>356|51=>319|20=>20|213=>357|232=>375|233=>376|80=>116|n=>n,fun|15=>4|16=>5|17=>6|18=>7|19=>8|n=>n⟩
theorem Tryz.fg:Go.Proofs.LaysC.n172 prog a1X:=kLay
open Go.RowKit in
theorem Tryz.strconv_Atoi_ok(s:ByteArray)(hmax:s.size≤9223372036854775806)(v:Int)(h:Lib.atoiAll s.data.toList= .ok v)(w:World):
  Calls prog 168 #[.string s] w fun e w'=>e= .returned (.tuple #[.int .i64 v,.nilIface])∧(w'=w∨∃t,w'=Lib.bytesWorld w 5 t):=Any.strconv_Atoi_ok fg s hmax v h w
open Go.RowKit in
theorem Tryz.strconv_Atoi_syntax_var(s:ByteArray)(hlim:s.size≤281474976710656)(h:Lib.atoiAll s.data.toList=Lib.atoiAll [])(tp:TypeId)(p:Value)(w:World)(hvar:w.var? prog "strconv.ErrSyntax" =some #[.iface tp p]):
  Calls prog 168 #[.string s] w fun e w'=>∃N,e= .returned (.tuple #[.int .i64 0,.iface 293 (.pointer (some ⟨N,0,none⟩))])∧w.heap.size≤N∧w'.heap[N]?=some (.cells #[.string ⟨#[65,116,111,105]⟩,.string s,.iface tp p] 327 (0,0))∧Below w.heap.size w w':=Any.strconv_Atoi_syntax_var fg s hlim (h.trans rfl) tp p w hvar
open Go.RowKit in
theorem Tryz.strconv_Atoi_range_var(s:ByteArray)(hlim:s.size≤281474976710656)(h:Lib.atoiAll s.data.toList= .range)(tp:TypeId)(p:Value)(w:World)(hvar:w.var? prog "strconv.ErrRange" =some #[.iface tp p]):
  Calls prog 168 #[.string s] w fun e w'=>∃N,e= .returned (.tuple #[.int .i64 (Lib.atoiSat s.data.toList),.iface 293 (.pointer (some ⟨N,0,none⟩))])∧w.heap.size≤N∧w'.heap[N]?=some (.cells #[.string ⟨#[65,116,111,105]⟩,.string s,.iface tp p] 327 (0,0))∧Below w.heap.size w w':=Any.strconv_Atoi_range_var fg s hlim h tp p w hvar
def Tryz.a2Q:Go.Shelf.Ren:=⟨fun|145=>315|220=>340|219=>237|217=>275|225=>276|224=>277|267=>278|266=>306|314=>307|n=>n,fun|9=>9|4=>4|59=>334|3=>3|5=>5|46=>278|146=>320|51=>319|n=>n,fun|1=>1|n=>n⟩
theorem Tryz.b1h:Go.Proofs.Lays.n145 prog a2Q:=kLay
open Go.RowKit Go.Lib in
theorem Tryz.strings_Cut(s sep:ByteArray)(m:Int)(w:World)(hs:s.size<4294967281)(hm:w.cell? ⟨1,0,none⟩=some (.int .i64 m)):
  Calls prog 315 #[.string s,.string sep] w fun e w'=>e= .returned (.tuple #[.string ⟨(Lib.cut s.data.toList sep.data.toList).1.toArray⟩,.string ⟨(Lib.cut s.data.toList sep.data.toList).2.1.toArray⟩,.bool (Lib.cut s.data.toList sep.data.toList).2.2])∧∃n,w'=w.drewN n:=Any.strings_Cut b1h s sep m w hs hm
def Tryz.a4T:Go.Shelf.Ren:=⟨fun|99=>199|206=>254|n=>n,fun|9=>9|4=>4|3=>3|n=>n,fun|n=>n⟩
theorem Tryz.b3H:Go.Proofs.Lays.n99 prog a4T:=kLay
open Go.RowKit Go.Lib in
theorem Tryz.strings_HasPrefix(s p:ByteArray)(w:World):
  Calls prog 199 #[.string s,.string p] w fun e w'=>e= .returned (.bool (Lib.hasPrefix s.data.toList p.data.toList))∧w'=w:=Any.strings_HasPrefix b3H s p w
def Tryz.a38:Go.Shelf.Ren:=⟨fun|101=>253|208=>299|206=>254|n=>n,fun|9=>9|4=>4|3=>3|n=>n,fun|n=>n⟩
theorem Tryz.b0D:Go.Proofs.Lays.n101 prog a38:=kLay
open Go.RowKit Go.Lib in
theorem Tryz.strings_TrimPrefix(s p:ByteArray)(w:World):
  Calls prog 253 #[.string s,.string p] w fun e w'=>e= .returned (.string ⟨(Lib.trimPrefix s.data.toList p.data.toList).toArray⟩)∧w'=w:=Any.strings_TrimPrefix b0D s p w
def Tryz.a1T:Go.Shelf.Ren:=⟨fun|146=>45|221=>90|268=>165|138=>166|143=>167|195=>234|197=>235|218=>236|219=>237|260=>274|217=>275|225=>276|224=>277|267=>278|266=>306|314=>307|n=>n,fun|9=>9|31=>90|3=>3|4=>4|0=>0|105=>254|21=>21|5=>5|46=>278|119=>315|139=>318|138=>317|146=>320|51=>319|n=>n,fun|1=>1|3=>2|4=>3|n=>n⟩
theorem Tryz.b0k:Go.Proofs.Lays.n146 prog a1T:=kLay
open Go.RowKit Go.Lib in
theorem Tryz.strings_Split(s sep:ByteArray)(m:Int)(w:World)(hs:s.size<4294967281)(hm:w.cell? ⟨1,0,none⟩=some (.int .i64 m))(h1:1≤sep.size):
  Calls prog 45 #[.string s,.string sep] w fun e w'=>
   e= .returned (.slice (some ⟨w.heap.size,0,none⟩) (Lib.countB s sep+1) (Lib.countB s sep+1))∧w'=w.alloc (.cells ((Lib.splitB sep 0 (Lib.countB s sep) s).map Value.string).toArray 9):=Any.strings_Split b0k (by kernel_rfl) s sep m w hs hm h1
def Tryz.vY:Go.Shelf.Ren:=⟨fun|105=>364|212=>378|99=>199|165=>379|166=>178|170=>176|169=>61|263=>383|264=>384|206=>254|240=>245|241=>385|276=>292|277=>388|n=>n,fun|9=>9|3=>3|4=>4|20=>20|0=>0|46=>278|109=>384|5=>5|72=>112|76=>186|51=>319|146=>320|53=>322|148=>390|70=>109|37=>110|75=>185|127=>156|164=>302|80=>116|n=>n,fun|n=>n⟩
theorem Tryz.b0E:Go.Proofs.Lays.n105 prog vY:=kLay
theorem Tryz.b2I:Builder.Extra prog vY:=kLay
open Go.RowKit Go.Lib in
theorem Tryz.strings_Repeat(s:ByteArray)(c:Nat)(w:World)(hc:c≤9223372036854775807)(hlen:s.size*c≤140737488355328):
  Calls prog 364 #[.string s,.int .i64 c] w fun e w'=>e= .returned (.string ⟨(Lib.repeatL s.data.toList c).toArray⟩)∧Below w.heap.size w w':=Any.strings_Repeat b0E b2I s c w hc hlen
def Tryz.a1p:Go.Shelf.Ren:=⟨fun|109=>95|n=>n,fun|31=>90|9=>9|3=>3|0=>0|4=>4|n=>n,fun|n=>n⟩
theorem Tryz.b2E:Go.Proofs.Lays.n109 prog a1p:=kLay
open Go.Lib in
theorem Tryz.slices_Index_string(b off n c:Nat)(zs:List ByteArray)(x:ByteArray)(w:World)(hz:n≤zs.length)(hbig:n≤9223372036854775807)(hc:∀j,j<zs.length→w.cell? ⟨b,off+j,none⟩=some (.string (zs.getD j ByteArray.empty))):
  Calls prog 95 #[.slice (some ⟨b,off,none⟩) n c,.string x] w fun e w'=>e= .returned (.int .i64 (Lib.idxOfS (zs.take n) x))∧w'=w:=Any.slices_Index_string b2E b off n c zs x w hz hbig hc
def Tryz.a2Y:Go.Shelf.Ren:=⟨fun|111=>21|n=>n,fun|28=>25|3=>3|4=>4|0=>0|n=>n,fun|n=>n⟩
theorem Tryz.iW:Go.Proofs.Lays.n111 prog a2Y:=kLay
open Go.RowKit Go.Lib in
theorem Tryz.slices_Equal_int(b1 o1 n c b2 o2 m d:Nat)(xs ys:List Int)(w:World)(hx:n≤xs.length)(hy:m≤ys.length)(hbig:n≤9223372036854775807)(hbig2:m≤9223372036854775807)(hc1:∀j,j<xs.length→w.cell? ⟨b1,o1+j,none⟩=some (.int .i64 (xs.getD j 0)))(hc2:∀j,j<ys.length→w.cell? ⟨b2,o2+j,none⟩=some (.int .i64 (ys.getD j 0))):
  Calls prog 21 #[.slice (some ⟨b1,o1,none⟩) n c,.slice (some ⟨b2,o2,none⟩) m d] w fun e w'=>e= .returned (.bool (xs.take n==ys.take m))∧∃q,w'=w.drewN q:=Any.slices_Equal_int iW b1 o1 n c b2 o2 m d xs ys w hx hy hbig hbig2 hc1 hc2
open Go.RowKit Go.Lib in
theorem Tryz.slices_Equal_int_empty(a1 a2:Option Addr)(c m d:Nat)(w:World)(hbig2:m≤9223372036854775807):
  Calls prog 21 #[.slice a1 0 c,.slice a2 m d] w fun e w'=>e= .returned (.bool (decide (m=0)))∧w'=w:=Any.slices_Equal_int_empty iW a1 a2 c m d w hbig2
def Tryz.a0l:Go.Shelf.Ren:=⟨fun|16=>106|n=>n,fun|24=>90|9=>9|4=>4|n=>n,fun|n=>n⟩
theorem Tryz.a6C:Go.Proofs.Lays2.n16 prog a0l:=kLay
open Go.RowKit Go.Lib in
theorem Tryz.slices_Clone_string(b off n c:Nat)(zs:List ByteArray)(w:World)(hz:n≤zs.length)(hbig:n*16≤140737488355328)(hc:∀j,j<zs.length→w.cell? ⟨b,off+j,none⟩=some (.string (zs.getD j ByteArray.empty))):
  Calls prog 106 #[.slice (some ⟨b,off,none⟩) n c] w fun e w'=>∃v',e= .returned v'∧w'.ownsRow w.heap.size 9 1 v' n ((zs.take n).map (Value.string))∧v'≠ .slice none 0 0∧Below w.heap.size w w':=Any.slices_Clone_string a6C b off n c zs w hz hbig hc
def Tryz.a0j:Go.Shelf.Ren:=⟨fun|25=>203|31=>255|32=>256|37=>300|n=>n,fun|22=>25|3=>3|4=>4|40=>278|0=>0|n=>n,fun|n=>n⟩
theorem Tryz.oV:Go.Proofs.Lays2.n25 prog a0j:=kLay
open Go.RowKit Go.Lib in
theorem Tryz.slices_BinarySearch_int(b off n c:Nat)(zs:List Int)(x:Int)(w:World)(hz:n≤zs.length)(hbig:n<4611686018427387904)(hc:∀j,j<zs.length→w.cell? ⟨b,off+j,none⟩=some (.int .i64 (zs.getD j 0)))(hs:(zs.take n).Pairwise (· ≤ ·)):
  Calls prog 203 #[.slice (some ⟨b,off,none⟩) n c,.int .i64 x] w fun e w'=>e= .returned (.tuple #[.int .i64 ((zs.take n).countP (· <x):Nat),.bool ((zs.take n).contains x)])∧∃q,w'=w.drewN q:=Any.slices_BinarySearch_int oV b off n c zs x w hz hbig hc hs
open Go.RowKit Go.Lib in
theorem Tryz.slices_BinarySearch_int_empty(a:Option Addr)(c:Nat)(x:Int)(w:World):
  Calls prog 203 #[.slice a 0 c,.int .i64 x] w fun e w'=>e= .returned (.tuple #[.int .i64 0,.bool false])∧w'=w:=Any.slices_BinarySearch_int_empty oV a c x w
end Go.Proofs
