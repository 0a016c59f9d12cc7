/- The contracts of library functions that the proof uses, at this program, in plain words (written by the kit's tool lay-plain.mjs; the unused left out). No conditions of its own. -/
import Derived.Shelf.Strings.Builder1
import Derived.Shelf.Strings.Builder2
import Derived.Shelf.Strings.OnBuilder
import Derived.Shelf.Strings.Trim
import Derived.Shelf.Small.Utf8
import Derived.Shelf.Small.Bits
import Derived.Shelf.Small.Strs
import Derived.Shelf.Small.Wraps
import Derived.Shelf.Strings.BuilderF
import Derived.Shelf.Strings.BuilderK
import Derived.Shelf.Strings.BuilderRune
import Derived.Shelf.Strings.Builder2Cap
import Derived.Shelf.Strconv.Atoi
import Derived.Shelf.Strconv.Itoa0
import Derived.Shelf.Strconv.Itoa1
import Derived.Shelf.Strconv.Itoa2
import Derived.Shelf.Strconv.Itoa3
import Derived.Shelf.Strconv.AtoiErrFast
import Derived.Shelf.Strconv.ParseIntEmpty
import Derived.Shelf.Strconv.AtoiFail
import Derived.Shelf.Strconv.Clone
import Derived.Shelf.Strconv.SyntaxError
import Derived.Shelf.LaysC
import Derived.Shelf.Strconv.ToError
import Derived.Shelf.Strconv.Lower
import Derived.Shelf.Strconv.ParseUint10
import Derived.Shelf.Strconv.ParseUint10Empty
import Derived.Shelf.Strconv.ParseUint10Any
import Derived.Shelf.Strconv.ParseInt10
import Derived.Shelf.Strconv.AtoiLong
import Derived.Shelf.Strconv.AtoiInnerAll
import Derived.Shelf.Strconv.RangeError
import Derived.Shelf.Strconv.ToErrorRange
import Derived.Shelf.Strconv.AtoiAll
import Derived.Shelf.Strconv.ErrVarAll
import Derived.Shelf.Strings.Search1
import Derived.Shelf.Strings.Search2
import Derived.Shelf.Strings.Search3
import Derived.Shelf.Strings.Cut
import Derived.Shelf.Strings.Count
import Derived.Shelf.Strings.Shaped
import Derived.Shelf.Sort.Plain
import Derived.Shelf.Strings.LastIndex
import Derived.Shelf.GgClosure.StringsIndexFunc
import Derived.Ground.GgwProg
import Derived.Shelf.GgClosure.StringsIndexFuncTop
import Derived.Shelf.Strings.Prefix
import Derived.Shelf.Strings.Split
import Derived.Shelf.Strings.Replace
import Derived.Shelf.Strings.SplitShaped
import Derived.Shelf.Unicode.Decode
import Derived.Shelf.Strings.Runes
import Derived.Shelf.Strings.RuneCount
import Derived.Shelf.Strings.AsciiSet
import Derived.Shelf.Strings.Explode
import Derived.Shelf.Unicode.DecodeSlow
import Derived.Shelf.Unicode.DecodeAny
import Derived.Shelf.Unicode.DecodeLast
import Derived.Shelf.Strings.MapAny
import Derived.Shelf.Strings.FuncGrows
import Derived.Shelf.Strings.BuilderCap
import Derived.Shelf.Strings.MapGrows
import Derived.Shelf.Slices.CompactS
import Derived.Shelf.Unicode.ValidAny
import Derived.Test.YtlfcfgbbhlgocaaGreatDoorProg
set_option linter.unusedVariables false
set_option linter.unusedSimpArgs false
namespace Go.Proofs
open Go.Shelf
def Tryz.lays169_ren :Go.Shelf.Ren:=⟨λ|169=>56|n=>n,λ|70=>104|9=>9|0=>0|72=>107|37=>105|127=>156|3=>3|5=>5|n=>n,λ|n=>n⟩
theorem Tryz.lays169 :Go.Proofs.Lays.n169 Tryz.prog Tryz.lays169_ren:=by constructor<;>first|kernel_rfl|(intro w;kernel_rfl)
theorem Tryz.Builder_Extra_169 :Builder.Extra Tryz.prog Tryz.lays169_ren:={
 sizeBuilder:=by kernel_rfl
 liesBuilder:=by kernel_rfl
 t5:=Tryz.underlying5
 a5:=Tryz.isAgg5
 z5:=Tryz.sizeOf5
 v5:=Tryz.zeroValue5
 infoByte:=by kernel_rfl
 cellsByte:=by kernel_rfl
 sizeByte:=by kernel_rfl
 neB5:=by decide}
def Tryz.lays156_ren :Go.Shelf.Ren:=⟨λ|156=>362|165=>162|166=>47|169=>56|240=>87|241=>220|276=>139|277=>256|n=>n,λ|31=>49|9=>9|3=>3|4=>4|0=>0|20=>20|72=>107|76=>112|70=>104|37=>105|75=>111|127=>156|164=>197|5=>5|80=>120|n=>n,λ|n=>n⟩
theorem Tryz.lays156 :Go.Proofs.Lays.n156 Tryz.prog Tryz.lays156_ren:=by constructor<;>first|kernel_rfl|(intro w;kernel_rfl)
theorem Tryz.Builder_Extra_156 :Builder.Extra Tryz.prog Tryz.lays156_ren:={
 sizeBuilder:=by kernel_rfl
 liesBuilder:=by kernel_rfl
 t5:=Tryz.underlying5
 a5:=Tryz.isAgg5
 z5:=Tryz.sizeOf5
 v5:=Tryz.zeroValue5
 infoByte:=by kernel_rfl
 cellsByte:=by kernel_rfl
 sizeByte:=by kernel_rfl
 neB5:=by decide}
open Go.RowKit in
theorem Tryz.strings_Join_none (a:Option Addr)(c:Nat)(sep:ByteArray)(w:World):
 Calls Tryz.prog 362 #[.slice a 0 c,.string sep] w λe w'=>e= .returned (.string ⟨#[]⟩)∧w'=w:=Any.strings_Join_none Tryz.lays156 Tryz.Builder_Extra_156 a c sep w
open Go.RowKit in
theorem Tryz.strings_Join (bk o c:Nat)(xs:List ByteArray)(sep:ByteArray)(w:World)(hcells:∀(j:Nat) x,xs[j]?=some x→w.cell? ⟨bk,o+j,none⟩=some (.string x))(hbk:bk<w.heap.size)(hN:xs.length≤140737488355328)(hcap:xs.length≤c)(hlen:(Lib.join (xs.map (·.data.toList)) sep.data.toList).length≤140737488355328):
 Calls Tryz.prog 362 #[.slice (some ⟨bk,o,none⟩) xs.length c,.string sep] w λe w'=>e= .returned (.string ⟨(Lib.join (xs.map (·.data.toList)) sep.data.toList).toArray⟩)∧Below w.heap.size w w':=Any.strings_Join Tryz.lays156 Tryz.Builder_Extra_156 bk o c xs sep w hcells hbk hN hcap hlen
def Tryz.lays160_ren :Go.Shelf.Ren:=⟨λ|160=>130|232=>188|231=>187|227=>189|234=>191|233=>190|236=>193|235=>192|228=>246|271=>248|151=>247|197=>160|120=>283|152=>282|260=>219|137=>320|119=>321|224=>309|225=>308|217=>307|266=>338|n=>n,λ|9=>9|4=>4|3=>3|5=>5|117=>243|116=>242|0=>0|124=>246|21=>21|105=>213|46=>157|119=>209|139=>212|138=>211|n=>n,λ|3=>0|4=>1|n=>n⟩
theorem Tryz.lays160 :Go.Proofs.Lays.n160 Tryz.prog Tryz.lays160_ren:=by constructor<;>first|kernel_rfl|(intro w;kernel_rfl)
def Tryz.lays103_ren :Go.Shelf.Ren:=⟨λ|103=>109|210=>165|206=>222|n=>n,λ|9=>9|4=>4|24=>168|3=>3|n=>n,λ|n=>n⟩
theorem Tryz.lays103 :Go.Proofs.Lays.n103 Tryz.prog Tryz.lays103_ren:=by constructor<;>first|kernel_rfl|(intro w;kernel_rfl)
open Go.RowKit in
theorem Tryz.strings_CutPrefix (s p:ByteArray)(w:World):
 Calls Tryz.prog 109 #[.string s,.string p] w λe w'=>e= .returned (.tuple #[.string ⟨(Lib.trimPrefix s.data.toList p.data.toList).toArray⟩,.bool<|Lib.hasPrefix s.data.toList p.data.toList])∧w'=w:=Any.strings_CutPrefix Tryz.lays103 s p w
def Tryz.lays171_ren :Go.Shelf.Ren:=⟨λ|171=>185|243=>245|246=>281|283=>316|284=>317|285=>318|286=>319|129=>207|317=>344|318=>345|319=>346|320=>347|337=>359|338=>360|n=>n,λ|3=>3|9=>9|2=>2|4=>4|171=>338|0=>0|53=>260|37=>105|5=>5|173=>340|212=>351|51=>258|20=>20|213=>352|46=>157|232=>361|233=>362|n=>n,λ|17=>9|18=>10|19=>11|n=>n⟩
theorem Tryz.lays171 :Go.Proofs.Lays.n171 Tryz.prog Tryz.lays171_ren:=by constructor<;>first|kernel_rfl|(intro w;kernel_rfl)
open Go.RowKit Go.Sort Go.Lib in
theorem Tryz.strconv_Itoa_small (i:Nat)(hi:i<100)(w:World):
 Calls Tryz.prog 185 #[.int .i64 i] w λe w'=>e= .returned (.string ⟨(Lib.decDigits i).toArray⟩)∧w'=w:=Any.strconv_Itoa_small Tryz.lays171 i hi w
def Tryz.laysC172_ren :Go.Shelf.Ren:=⟨λ|172=>184|244=>243|245=>244|247=>276|279=>277|280=>278|281=>279|282=>280|287=>313|316=>314|171=>185|205=>315|321=>342|322=>343|243=>245|246=>281|283=>316|284=>317|285=>318|286=>319|129=>207|317=>344|318=>345|319=>346|320=>347|337=>359|338=>360|n=>n,λ|9=>9|3=>3|75=>111|76=>112|4=>4|5=>5|167=>316|37=>105|0=>0|85=>317|2=>2|168=>319|53=>260|175=>333|46=>157|210=>336|127=>156|145=>349|143=>347|21=>21|171=>338|173=>340|212=>351|51=>258|20=>20|213=>352|232=>361|233=>362|80=>120|n=>n,λ|15=>7|16=>8|17=>9|18=>10|19=>11|n=>n⟩
theorem Tryz.laysC172 :Go.Proofs.LaysC.n172 Tryz.prog Tryz.laysC172_ren:=by constructor<;>first|kernel_rfl|(intro w;kernel_rfl)|(constructor<;>first|kernel_rfl|(intro w;kernel_rfl)|(constructor<;>first|kernel_rfl|(intro w;kernel_rfl)))
open Go.RowKit in
theorem Tryz.strconv_Atoi_ok (s:ByteArray)(hmax:s.size≤9223372036854775806)(v:Int)(h:Lib.atoiAll s.data.toList= .ok v)(w:World):
 Calls Tryz.prog 184 #[.string s] w λe w'=>e= .returned (.tuple #[.int .i64 v,.nilIface])∧(w'=w∨∃t,w'=Lib.bytesWorld w 5 t):=Any.strconv_Atoi_ok Tryz.laysC172 s hmax v h w
open Go.RowKit in
theorem Tryz.strconv_Atoi_syntax (s:ByteArray)(hlim:s.size≤281474976710656)(h:Lib.atoiAll s.data.toList=Lib.atoiAll [])(ev:Value)(w:World)(hv:w.cell? ⟨7,0,none⟩=some ev)(hev:ev= .nilIface∨∃te pe,ev= .iface te pe):
 Calls Tryz.prog 184 #[.string s] w λe w'=>∃N,e= .returned (.tuple #[.int .i64<|0,.iface 319<|.pointer<|some ⟨N,0,none⟩])∧w.heap.size≤N∧w'.heap[N]?=some (.cells #[.string ⟨#[65,116,111,105]⟩,.string s,ev] 336 (0,0))∧Below w.heap.size w w':=Any.strconv_Atoi_syntax Tryz.laysC172 s hlim h ev w hv hev
def Tryz.lays143_ren :Go.Shelf.Ren:=⟨λ|143=>275|219=>270|217=>307|225=>308|224=>309|267=>310|266=>338|314=>339|n=>n,λ|9=>9|3=>3|4=>4|5=>5|46=>157|146=>344|51=>258|n=>n,λ|1=>2|n=>n⟩
theorem Tryz.lays143 :Go.Proofs.Lays.n143 Tryz.prog Tryz.lays143_ren:=by constructor<;>first|kernel_rfl|(intro w;kernel_rfl)
open Go.RowKit Go.Lib in
theorem Tryz.strings_Index (s sub:ByteArray)(m:Int)(w:World)(hs:s.size<4294967281)(hm:w.cell? ⟨2,0,none⟩=some (.int .i64 m)):
 Calls Tryz.prog 275 #[.string s,.string sub] w λe w'=>e= .returned (.int .i64<|Lib.index s.data.toList sub.data.toList)∧w'=w:=Any.strings_Index Tryz.lays143 s sub m w hs hm
def Tryz.lays144_ren :Go.Shelf.Ren:=⟨λ|144=>240|143=>275|219=>270|217=>307|225=>308|224=>309|267=>310|266=>338|314=>339|n=>n,λ|9=>9|4=>4|3=>3|5=>5|46=>157|146=>344|51=>258|n=>n,λ|1=>2|n=>n⟩
theorem Tryz.lays144 :Go.Proofs.Lays.n144 Tryz.prog Tryz.lays144_ren:=by constructor<;>first|kernel_rfl|(intro w;kernel_rfl)
open Go.RowKit Go.Lib in
theorem Tryz.strings_Contains (s sub:ByteArray)(m:Int)(w:World)(hs:s.size<4294967281)(hm:w.cell? ⟨2,0,none⟩=some (.int .i64 m)):
 Calls Tryz.prog 240 #[.string s,.string sub] w λe w'=>e= .returned (.bool<|Lib.contains s.data.toList sub.data.toList)∧w'=w:=Any.strings_Contains Tryz.lays144 s sub m w hs hm
def Tryz.lays145_ren :Go.Shelf.Ren:=⟨λ|145=>168|220=>228|219=>270|217=>307|225=>308|224=>309|267=>310|266=>338|314=>339|n=>n,λ|9=>9|4=>4|59=>224|3=>3|5=>5|46=>157|146=>344|51=>258|n=>n,λ|1=>2|n=>n⟩
theorem Tryz.lays145 :Go.Proofs.Lays.n145 Tryz.prog Tryz.lays145_ren:=by constructor<;>first|kernel_rfl|(intro w;kernel_rfl)
open Go.RowKit Go.Lib in
theorem Tryz.strings_Cut (s sep:ByteArray)(m:Int)(w:World)(hs:s.size<4294967281)(hm:w.cell? ⟨2,0,none⟩=some (.int .i64 m)):
 Calls Tryz.prog 168 #[.string s,.string sep] w λe w'=>e= .returned (.tuple #[.string ⟨(Lib.cut s.data.toList sep.data.toList).1.toArray⟩,.string ⟨(Lib.cut s.data.toList sep.data.toList).2.1.toArray⟩,.bool (Lib.cut s.data.toList sep.data.toList).2.2])∧∃n,w'=w.drewN n:=Any.strings_Cut Tryz.lays145 s sep m w hs hm
def Tryz.lays138_ren :Go.Shelf.Ren:=⟨λ|138=>312|195=>340|218=>341|143=>275|219=>270|217=>307|225=>308|224=>309|267=>310|266=>338|314=>339|n=>n,λ|9=>9|3=>3|4=>4|5=>5|0=>0|46=>157|146=>344|51=>258|n=>n,λ|1=>2|n=>n⟩
theorem Tryz.lays138 :Go.Proofs.Lays.n138 Tryz.prog Tryz.lays138_ren:=by constructor<;>first|kernel_rfl|(intro w;kernel_rfl)
open Go.RowKit Go.Lib in
theorem Tryz.strings_Count_one (s:ByteArray)(c:UInt8)(w:World):
 Calls Tryz.prog 312 #[.string s,.string ⟨#[c]⟩] w λe w'=>e= .returned (.int .i64<|Lib.countByte s.data.toList c)∧w'=w:=Any.strings_Count_one Tryz.lays138 s c w
def Tryz.lays149_ren :Go.Shelf.Ren:=⟨λ|149=>237|222=>273|n=>n,λ|9=>9|5=>5|3=>3|4=>4|n=>n,λ|n=>n⟩
theorem Tryz.lays149 :Go.Proofs.Lays.n149 Tryz.prog Tryz.lays149_ren:=by constructor<;>first|kernel_rfl|(intro w;kernel_rfl)
open Go.RowKit Go.Lib in
theorem Tryz.strings_LastIndexByte (s:ByteArray)(c:Int)(hs:s.size<4611686018427387904)(w:World):
 Calls Tryz.prog 237 #[.string s,.int .u8 c] w λe w'=>e= .returned (.int .i64<|Lib.lastIndexByte s c)∧w'=w:=Any.strings_LastIndexByte Tryz.lays149 s c hs w
def Tryz.lays99_ren :Go.Shelf.Ren:=⟨λ|99=>285|206=>222|n=>n,λ|9=>9|4=>4|3=>3|n=>n,λ|n=>n⟩
theorem Tryz.lays99 :Go.Proofs.Lays.n99 Tryz.prog Tryz.lays99_ren:=by constructor<;>first|kernel_rfl|(intro w;kernel_rfl)
open Go.RowKit Go.Lib in
theorem Tryz.strings_HasPrefix (s p:ByteArray)(w:World):
 Calls Tryz.prog 285 #[.string s,.string p] w λe w'=>e= .returned (.bool<|Lib.hasPrefix s.data.toList p.data.toList)∧w'=w:=Any.strings_HasPrefix Tryz.lays99 s p w
def Tryz.lays101_ren :Go.Shelf.Ren:=⟨λ|101=>118|208=>172|206=>222|n=>n,λ|9=>9|4=>4|3=>3|n=>n,λ|n=>n⟩
theorem Tryz.lays101 :Go.Proofs.Lays.n101 Tryz.prog Tryz.lays101_ren:=by constructor<;>first|kernel_rfl|(intro w;kernel_rfl)
open Go.RowKit Go.Lib in
theorem Tryz.strings_TrimPrefix (s p:ByteArray)(w:World):
 Calls Tryz.prog 118 #[.string s,.string p] w λe w'=>e= .returned (.string ⟨(Lib.trimPrefix s.data.toList p.data.toList).toArray⟩)∧w'=w:=Any.strings_TrimPrefix Tryz.lays101 s p w
def Tryz.lays230_ren :Go.Shelf.Ren:=⟨λ|230=>107|197=>160|118=>161|165=>162|166=>47|168=>163|270=>164|167=>89|169=>56|260=>219|240=>87|241=>220|242=>221|276=>139|277=>256|278=>257|n=>n,λ|107=>167|9=>9|72=>107|0=>0|4=>4|3=>3|21=>21|105=>213|76=>112|5=>5|75=>111|70=>104|20=>20|37=>105|127=>156|119=>209|46=>157|139=>212|138=>211|164=>197|51=>258|80=>120|n=>n,λ|3=>0|4=>1|n=>n⟩
theorem Tryz.lays230 :Go.Proofs.Lays.n230 Tryz.prog Tryz.lays230_ren:=by constructor<;>first|kernel_rfl|(intro w;kernel_rfl)
theorem Tryz.Builder_Extra_230 :Builder.Extra Tryz.prog Tryz.lays230_ren:={
 sizeBuilder:=by kernel_rfl
 liesBuilder:=by kernel_rfl
 t5:=Tryz.underlying5
 a5:=Tryz.isAgg5
 z5:=Tryz.sizeOf5
 v5:=Tryz.zeroValue5
 infoByte:=by kernel_rfl
 cellsByte:=by kernel_rfl
 sizeByte:=by kernel_rfl
 neB5:=by decide}
open Go.RowKit Go.Lib in
theorem Tryz.strings_Map_grows (g:Nat)(lb:Array Value)(eg:∀args w,(callFunc g args).run Tryz.prog w= .ok (.enter g args) w)(f:Int→Int)(s:ByteArray)(w:World)(hs:s.size<35184372088832)(hf:MapGrows Tryz.prog g lb f w)(hnn:∀x:Nat,x≤1114111→-2147483648≤f x∧f x≤2147483647)(hT:Lib.Utf8Tabs 0 1 w):
 Calls Tryz.prog 107 #[.func (.func g) #[] lb,.string s] w λe w'=>e= .returned (.string ⟨(Lib.mapD f s.data.toList).toArray⟩)∧Below w.heap.size w w':=Any.strings_Map_grows Tryz.lays230 Tryz.Builder_Extra_230 g lb eg f s w hs hf hnn hT
def Tryz.lays194_ren :Go.Shelf.Ren:=⟨λ|194=>86|n=>n,λ|31=>49|9=>9|3=>3|4=>4|0=>0|n=>n,λ|n=>n⟩
theorem Tryz.lays194 :Go.Proofs.Lays.n194 Tryz.prog Tryz.lays194_ren:=by constructor<;>first|kernel_rfl|(intro w;kernel_rfl)
open Go.RowKit Go.Lib Go.Sort in
theorem Tryz.slices_Compact_string_arr (blk off cap:Nat)(d:Array<|List UInt8)(w:World)(hH:Holds encStr w blk off d)(hsz:d.size≤9223372036854775807)(hcap:d.size≤cap):
 Calls Tryz.prog 86 #[.slice (some ⟨blk,off,none⟩) d.size cap] w λe w'=>e= .returned (.slice (some ⟨blk,off,none⟩) (compactUpTo d d.size).length cap)∧∃q,w'=putRow encStr (Sort.ahead w q) blk off (compactUpTo d d.size++List.replicate (d.size-(compactUpTo d d.size).length) []).toArray:=Any.slices_Compact_string_arr Tryz.lays194 blk off cap d w hH hsz hcap
def Tryz.laysValid_ren :Go.Shelf.Ren:=⟨λ|196=>105|259=>159|n=>n,λ|9=>9|4=>4|3=>3|5=>5|12=>12|119=>209|0=>0|46=>157|139=>212|138=>211|53=>260|n=>n,λ|3=>0|4=>1|n=>n⟩
theorem Tryz.laysValid :Go.Proofs.Lays.n196 Tryz.prog Tryz.laysValid_ren:=by constructor<;>first|kernel_rfl|(intro w;kernel_rfl)
open Go.Sort Go.RowKit in
theorem Tryz.utf8_ValidString (s:ByteArray)(w:World)(hs:s.size≤9223372036854775807)(hT:Lib.Utf8Tabs 0 1 w):
 Calls Tryz.prog 105 #[.string s] w λe w'=>e= .returned (.bool<|Lib.validD s.data.toList)∧Below w.heap.size w w':=Any.utf8_ValidString Tryz.laysValid s w hs hT
def Tryz.laysSort_ren :Go.Shelf.Ren:=⟨λ|190=>85|125=>138|258=>137|128=>206|129=>207|302=>197|303=>198|304=>199|305=>200|306=>201|307=>202|308=>203|309=>204|310=>205|333=>249|329=>250|330=>251|334=>252|335=>253|336=>254|344=>284|n=>n,λ|31=>49|9=>9|3=>3|46=>157|0=>0|51=>258|53=>260|4=>4|183=>250|182=>249|131=>255|5=>5|218=>295|222=>299|228=>324|229=>325|n=>n,λ|n=>n⟩
theorem Tryz.laysSort :Go.Proofs.Lays.n190 Tryz.prog Tryz.laysSort_ren:=by constructor<;>first|kernel_rfl|(intro w;kernel_rfl)
open Go.Sort Go.RowKit in
theorem Tryz.slices_Sort_string (blk off cap:Nat)(ss:List<|List UInt8)(w:World)(hH:Holds encStr w blk off ss.toArray)(hblk:blk<w.heap.size)(hsz:ss.length<4611686018427387904):
 Calls Tryz.prog 85 #[.slice (some ⟨blk,off,none⟩) ss.length cap] w λe w'=>e= .returned (.tuple #[])∧∃n os,w'=grow (putRow encStr (Sort.ahead w n) blk off (ss.mergeSort λx y=>decide<|x≤y).toArray) os:=Any.slices_Sort_string Tryz.laysSort blk off cap ss w hH hblk hsz
end Go.Proofs
