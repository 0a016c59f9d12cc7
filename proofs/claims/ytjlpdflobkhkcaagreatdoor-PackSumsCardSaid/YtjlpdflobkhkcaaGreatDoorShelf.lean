/- The contracts of library functions that the proof uses, at this program, in plain words (written by the kit's tool lay-plain.mjs; the unused left out). No conditions of its own. -/
import Derived.Shelf.Strings.Builder1
import Derived.Shelf.Strings.Builder2
import Derived.Shelf.Strings.OnBuilder
import Derived.Shelf.Strings.Trim
import Derived.Shelf.Small.Utf8
import Derived.Shelf.Small.Bits
import Derived.Shelf.Small.Strs
import Derived.Shelf.Small.Wraps
import Derived.Shelf.Strings.BuilderF
import Derived.Shelf.Strings.BuilderK
import Derived.Shelf.Strings.BuilderRune
import Derived.Shelf.Utf8.RuneCount
import Derived.Shelf.Strings.Builder2Cap
import Derived.Shelf.Strconv.Atoi
import Derived.Shelf.Strconv.Itoa0
import Derived.Shelf.Strconv.Itoa1
import Derived.Shelf.Strconv.Itoa2
import Derived.Shelf.Strconv.Itoa3
import Derived.Shelf.Strconv.AtoiErrFast
import Derived.Shelf.Strconv.ParseIntEmpty
import Derived.Shelf.Strconv.AtoiFail
import Derived.Shelf.Strconv.Clone
import Derived.Shelf.Strconv.SyntaxError
import Derived.Shelf.LaysC
import Derived.Shelf.Strconv.ToError
import Derived.Shelf.Strconv.Lower
import Derived.Shelf.Strconv.ParseUint10
import Derived.Shelf.Strconv.ParseUint10Empty
import Derived.Shelf.Strconv.ParseUint10Any
import Derived.Shelf.Strconv.ParseInt10
import Derived.Shelf.Strconv.AtoiLong
import Derived.Shelf.Strconv.AtoiInnerAll
import Derived.Shelf.Strconv.RangeError
import Derived.Shelf.Strconv.ToErrorRange
import Derived.Shelf.Strconv.AtoiAll
import Derived.Shelf.Strconv.ErrVarAll
import Derived.Shelf.Strings.Search1
import Derived.Shelf.Strings.Search2
import Derived.Shelf.Strings.Search3
import Derived.Shelf.Strings.Cut
import Derived.Shelf.Strings.Count
import Derived.Shelf.Strings.Shaped
import Derived.Shelf.Sort.Plain
import Derived.Shelf.Strings.LastIndex
import Derived.Shelf.GgClosure.StringsIndexFunc
import Derived.Ground.GgwProg
import Derived.Shelf.GgClosure.StringsIndexFuncTop
import Derived.Shelf.Strings.Prefix
import Derived.Shelf.Strings.Split
import Derived.Shelf.Strings.Replace
import Derived.Shelf.Strings.SplitShaped
import Derived.Shelf.Unicode.Decode
import Derived.Shelf.Strings.Runes
import Derived.Shelf.Strings.RuneCount
import Derived.Shelf.Strings.AsciiSet
import Derived.Shelf.Strings.Explode
import Derived.Shelf.Unicode.DecodeSlow
import Derived.Shelf.Unicode.DecodeAny
import Derived.Shelf.Unicode.DecodeLast
import Derived.Shelf.Strings.MapAny
import Derived.Shelf.Strings.FuncGrows
import Derived.Shelf.Strings.BuilderCap
import Derived.Shelf.Strings.MapGrows
import Derived.Shelf.Slices.CompactS
import Derived.Ground.Names2Prog
import Derived.Shelf.Slices.SearchI
import Derived.Shelf.Slices.Cells
import Derived.Shelf.Unicode.ValidAny
import Derived.Test.YtjlpdflobkhkcaaGreatDoorProg
namespace Go.Proofs
open Go.Shelf
def Tryz.lays169_ren :Go.Shelf.Ren:=⟨λ|169=>55|n=>n,λ|70=>104|9=>9|0=>0|72=>106|37=>40|127=>155|3=>3|5=>5|n=>n,λ|n=>n⟩
theorem Tryz.lays169 :Go.Proofs.Lays.n169 Tryz.prog Tryz.lays169_ren:=by constructor<;>first|kernel_rfl|(intro w;kernel_rfl)
theorem Tryz.Builder_Extra_169 :Builder.Extra Tryz.prog Tryz.lays169_ren:={
 sizeBuilder:=by kernel_rfl
 liesBuilder:=by kernel_rfl
 t5:=Tryz.underlying5
 a5:=Tryz.isAgg5
 z5:=Tryz.sizeOf5
 v5:=Tryz.zeroValue5
 infoByte:=by kernel_rfl
 cellsByte:=by kernel_rfl
 sizeByte:=by kernel_rfl
 neB5:=by decide}
def Tryz.lays156_ren :Go.Shelf.Ren:=⟨λ|156=>364|165=>145|166=>46|169=>55|240=>86|241=>211|276=>127|277=>257|n=>n,λ|31=>36|9=>9|3=>3|4=>4|0=>0|20=>20|72=>106|76=>111|70=>104|37=>40|75=>110|127=>155|164=>193|5=>5|80=>119|n=>n,λ|n=>n⟩
theorem Tryz.lays156 :Go.Proofs.Lays.n156 Tryz.prog Tryz.lays156_ren:=by constructor<;>first|kernel_rfl|(intro w;kernel_rfl)
theorem Tryz.Builder_Extra_156 :Builder.Extra Tryz.prog Tryz.lays156_ren:={
 sizeBuilder:=by kernel_rfl
 liesBuilder:=by kernel_rfl
 t5:=Tryz.underlying5
 a5:=Tryz.isAgg5
 z5:=Tryz.sizeOf5
 v5:=Tryz.zeroValue5
 infoByte:=by kernel_rfl
 cellsByte:=by kernel_rfl
 sizeByte:=by kernel_rfl
 neB5:=by decide}
open Go.RowKit in
theorem Tryz.strings_Join_none (a:Option Addr)(c:Nat)(sep:ByteArray)(w:World):
 Calls Tryz.prog 364 #[.slice a 0 c,.string sep] w λe w'=>e= .returned (.string ⟨#[]⟩)∧w'=w:=Any.strings_Join_none Tryz.lays156 Tryz.Builder_Extra_156 a c sep w
open Go.RowKit in
theorem Tryz.strings_Join (bk o c:Nat)(xs:List ByteArray)(sep:ByteArray)(w:World)(hcells:∀(j:Nat) x,xs[j]?=some x→w.cell? ⟨bk,o+j,none⟩=some (.string x))(hbk:bk<w.heap.size)(hN:xs.length≤140737488355328)(hcap:xs.length≤c)(hlen:(Lib.join (xs.map (·.data.toList)) sep.data.toList).length≤140737488355328):
 Calls Tryz.prog 364 #[.slice (some ⟨bk,o,none⟩) xs.length c,.string sep] w λe w'=>e= .returned (.string ⟨(Lib.join (xs.map (·.data.toList)) sep.data.toList).toArray⟩)∧Below w.heap.size w w':=Any.strings_Join Tryz.lays156 Tryz.Builder_Extra_156 bk o c xs sep w hcells hbk hN hcap hlen
def Tryz.lays160_ren :Go.Shelf.Ren:=⟨λ|160=>118|232=>171|231=>170|227=>172|234=>174|233=>173|236=>176|235=>175|228=>237|271=>239|151=>238|197=>143|120=>284|152=>283|260=>210|137=>322|119=>323|224=>311|225=>310|217=>309|266=>340|n=>n,λ|9=>9|4=>4|3=>3|5=>5|117=>236|116=>235|0=>0|124=>239|21=>21|105=>206|46=>159|119=>202|139=>205|138=>204|n=>n,λ|3=>0|4=>1|n=>n⟩
theorem Tryz.lays160 :Go.Proofs.Lays.n160 Tryz.prog Tryz.lays160_ren:=by constructor<;>first|kernel_rfl|(intro w;kernel_rfl)
def Tryz.lays103_ren :Go.Shelf.Ren:=⟨λ|103=>97|210=>148|206=>213|n=>n,λ|9=>9|4=>4|24=>163|3=>3|n=>n,λ|n=>n⟩
theorem Tryz.lays103 :Go.Proofs.Lays.n103 Tryz.prog Tryz.lays103_ren:=by constructor<;>first|kernel_rfl|(intro w;kernel_rfl)
open Go.RowKit in
theorem Tryz.strings_CutPrefix (s p:ByteArray)(w:World):
 Calls Tryz.prog 97 #[.string s,.string p] w λe w'=>e= .returned (.tuple #[.string ⟨(Lib.trimPrefix s.data.toList p.data.toList).toArray⟩,.bool<|Lib.hasPrefix s.data.toList p.data.toList])∧w'=w:=Any.strings_CutPrefix Tryz.lays103 s p w
def Tryz.lays171_ren :Go.Shelf.Ren:=⟨λ|171=>168|243=>236|246=>282|283=>318|284=>319|285=>320|286=>321|129=>190|317=>346|318=>347|319=>348|320=>349|337=>361|338=>362|n=>n,λ|3=>3|9=>9|2=>2|4=>4|171=>340|0=>0|53=>253|37=>40|5=>5|173=>342|212=>353|51=>251|20=>20|213=>354|46=>159|232=>363|233=>364|n=>n,λ|17=>9|18=>10|19=>11|n=>n⟩
theorem Tryz.lays171 :Go.Proofs.Lays.n171 Tryz.prog Tryz.lays171_ren:=by constructor<;>first|kernel_rfl|(intro w;kernel_rfl)
open Go.RowKit Go.Sort Go.Lib in
theorem Tryz.strconv_Itoa_small (i:Nat)(hi:i<100)(w:World):
 Calls Tryz.prog 168 #[.int .i64 i] w λe w'=>e= .returned (.string ⟨(Lib.decDigits i).toArray⟩)∧w'=w:=Any.strconv_Itoa_small Tryz.lays171 i hi w
def Tryz.laysC172_ren :Go.Shelf.Ren:=⟨λ|172=>167|244=>234|245=>235|247=>277|279=>278|280=>279|281=>280|282=>281|287=>315|316=>316|171=>168|205=>317|321=>344|322=>345|243=>236|246=>282|283=>318|284=>319|285=>320|286=>321|129=>190|317=>346|318=>347|319=>348|320=>349|337=>361|338=>362|n=>n,λ|9=>9|3=>3|75=>110|76=>111|4=>4|5=>5|167=>316|37=>40|0=>0|85=>317|2=>2|168=>319|53=>253|175=>335|46=>159|210=>338|127=>155|145=>351|143=>349|21=>21|171=>340|173=>342|212=>353|51=>251|20=>20|213=>354|232=>363|233=>364|80=>119|n=>n,λ|15=>7|16=>8|17=>9|18=>10|19=>11|n=>n⟩
theorem Tryz.laysC172 :Go.Proofs.LaysC.n172 Tryz.prog Tryz.laysC172_ren:=by constructor<;>first|kernel_rfl|(intro w;kernel_rfl)|(constructor<;>first|kernel_rfl|(intro w;kernel_rfl)|(constructor<;>first|kernel_rfl|(intro w;kernel_rfl)))
open Go.RowKit in
theorem Tryz.strconv_Atoi_ok (s:ByteArray)(hmax:s.size≤9223372036854775806)(v:Int)(h:Lib.atoiAll s.data.toList= .ok v)(w:World):
 Calls Tryz.prog 167 #[.string s] w λe w'=>e= .returned (.tuple #[.int .i64 v,.nilIface])∧(w'=w∨∃t,w'=Lib.bytesWorld w 5 t):=Any.strconv_Atoi_ok Tryz.laysC172 s hmax v h w
open Go.RowKit in
theorem Tryz.strconv_Atoi_syntax (s:ByteArray)(hlim:s.size≤281474976710656)(h:Lib.atoiAll s.data.toList=Lib.atoiAll [])(ev:Value)(w:World)(hv:w.cell? ⟨7,0,none⟩=some ev)(hev:ev= .nilIface∨∃te pe,ev= .iface te pe):
 Calls Tryz.prog 167 #[.string s] w λe w'=>∃N,e= .returned (.tuple #[.int .i64<|0,.iface 319<|.pointer<|some ⟨N,0,none⟩])∧w.heap.size≤N∧w'.heap[N]?=some (.cells #[.string ⟨#[65,116,111,105]⟩,.string s,ev] 338 (0,0))∧Below w.heap.size w w':=Any.strconv_Atoi_syntax Tryz.laysC172 s hlim h ev w hv hev
def Tryz.lays143_ren :Go.Shelf.Ren:=⟨λ|143=>276|219=>271|217=>309|225=>310|224=>311|267=>312|266=>340|314=>341|n=>n,λ|9=>9|3=>3|4=>4|5=>5|46=>159|146=>346|51=>251|n=>n,λ|1=>2|n=>n⟩
theorem Tryz.lays143 :Go.Proofs.Lays.n143 Tryz.prog Tryz.lays143_ren:=by constructor<;>first|kernel_rfl|(intro w;kernel_rfl)
open Go.RowKit Go.Lib in
theorem Tryz.strings_Index (s sub:ByteArray)(m:Int)(w:World)(hs:s.size<4294967281)(hm:w.cell? ⟨2,0,none⟩=some (.int .i64 m)):
 Calls Tryz.prog 276 #[.string s,.string sub] w λe w'=>e= .returned (.int .i64<|Lib.index s.data.toList sub.data.toList)∧w'=w:=Any.strings_Index Tryz.lays143 s sub m w hs hm
def Tryz.lays144_ren :Go.Shelf.Ren:=⟨λ|144=>231|143=>276|219=>271|217=>309|225=>310|224=>311|267=>312|266=>340|314=>341|n=>n,λ|9=>9|4=>4|3=>3|5=>5|46=>159|146=>346|51=>251|n=>n,λ|1=>2|n=>n⟩
theorem Tryz.lays144 :Go.Proofs.Lays.n144 Tryz.prog Tryz.lays144_ren:=by constructor<;>first|kernel_rfl|(intro w;kernel_rfl)
open Go.RowKit Go.Lib in
theorem Tryz.strings_Contains (s sub:ByteArray)(m:Int)(w:World)(hs:s.size<4294967281)(hm:w.cell? ⟨2,0,none⟩=some (.int .i64 m)):
 Calls Tryz.prog 231 #[.string s,.string sub] w λe w'=>e= .returned (.bool<|Lib.contains s.data.toList sub.data.toList)∧w'=w:=Any.strings_Contains Tryz.lays144 s sub m w hs hm
def Tryz.lays145_ren :Go.Shelf.Ren:=⟨λ|145=>151|220=>219|219=>271|217=>309|225=>310|224=>311|267=>312|266=>340|314=>341|n=>n,λ|9=>9|4=>4|59=>217|3=>3|5=>5|46=>159|146=>346|51=>251|n=>n,λ|1=>2|n=>n⟩
theorem Tryz.lays145 :Go.Proofs.Lays.n145 Tryz.prog Tryz.lays145_ren:=by constructor<;>first|kernel_rfl|(intro w;kernel_rfl)
open Go.RowKit Go.Lib in
theorem Tryz.strings_Cut (s sep:ByteArray)(m:Int)(w:World)(hs:s.size<4294967281)(hm:w.cell? ⟨2,0,none⟩=some (.int .i64 m)):
 Calls Tryz.prog 151 #[.string s,.string sep] w λe w'=>e= .returned (.tuple #[.string ⟨(Lib.cut s.data.toList sep.data.toList).1.toArray⟩,.string ⟨(Lib.cut s.data.toList sep.data.toList).2.1.toArray⟩,.bool (Lib.cut s.data.toList sep.data.toList).2.2])∧∃n,w'=w.drewN n:=Any.strings_Cut Tryz.lays145 s sep m w hs hm
def Tryz.lays138_ren :Go.Shelf.Ren:=⟨λ|138=>314|195=>342|218=>343|143=>276|219=>271|217=>309|225=>310|224=>311|267=>312|266=>340|314=>341|n=>n,λ|9=>9|3=>3|4=>4|5=>5|0=>0|46=>159|146=>346|51=>251|n=>n,λ|1=>2|n=>n⟩
theorem Tryz.lays138 :Go.Proofs.Lays.n138 Tryz.prog Tryz.lays138_ren:=by constructor<;>first|kernel_rfl|(intro w;kernel_rfl)
open Go.RowKit Go.Lib in
theorem Tryz.strings_Count_one (s:ByteArray)(c:UInt8)(w:World):
 Calls Tryz.prog 314 #[.string s,.string ⟨#[c]⟩] w λe w'=>e= .returned (.int .i64<|Lib.countByte s.data.toList c)∧w'=w:=Any.strings_Count_one Tryz.lays138 s c w
def Tryz.lays190_ren :Go.Shelf.Ren:=⟨λ|190=>84|125=>126|258=>125|128=>189|129=>190|302=>180|303=>181|304=>182|305=>183|306=>184|307=>185|308=>186|309=>187|310=>188|333=>240|329=>241|330=>242|334=>243|335=>244|336=>245|344=>285|n=>n,λ|31=>36|9=>9|3=>3|46=>159|0=>0|51=>251|53=>253|4=>4|183=>243|182=>242|131=>248|5=>5|218=>287|222=>291|228=>324|229=>325|n=>n,λ|n=>n⟩
theorem Tryz.lays190 :Go.Proofs.Lays.n190 Tryz.prog Tryz.lays190_ren:=by constructor<;>first|kernel_rfl|(intro w;kernel_rfl)
open Go.Sort Go.RowKit in
theorem Tryz.slices_Sort_string (blk off cap:Nat)(ss:List<|List UInt8)(w:World)(hH:Holds encStr w blk off ss.toArray)(hblk:blk<w.heap.size)(hsz:ss.length<4611686018427387904):
 Calls Tryz.prog 84 #[.slice (some ⟨blk,off,none⟩) ss.length cap] w λe w'=>e= .returned (.tuple #[])∧∃n os,w'=grow (putRow encStr (Sort.ahead w n) blk off (ss.mergeSort λx y=>decide<|x≤y).toArray) os:=Any.slices_Sort_string Tryz.lays190 blk off cap ss w hH hblk hsz
def Tryz.lays149_ren :Go.Shelf.Ren:=⟨λ|149=>228|222=>274|n=>n,λ|9=>9|5=>5|3=>3|4=>4|n=>n,λ|n=>n⟩
theorem Tryz.lays149 :Go.Proofs.Lays.n149 Tryz.prog Tryz.lays149_ren:=by constructor<;>first|kernel_rfl|(intro w;kernel_rfl)
open Go.RowKit Go.Lib in
theorem Tryz.strings_LastIndexByte (s:ByteArray)(c:Int)(hs:s.size<4611686018427387904)(w:World):
 Calls Tryz.prog 228 #[.string s,.int .u8 c] w λe w'=>e= .returned (.int .i64<|Lib.lastIndexByte s c)∧w'=w:=Any.strings_LastIndexByte Tryz.lays149 s c hs w
def Tryz.lays99_ren :Go.Shelf.Ren:=⟨λ|99=>287|206=>213|n=>n,λ|9=>9|4=>4|3=>3|n=>n,λ|n=>n⟩
theorem Tryz.lays99 :Go.Proofs.Lays.n99 Tryz.prog Tryz.lays99_ren:=by constructor<;>first|kernel_rfl|(intro w;kernel_rfl)
open Go.RowKit Go.Lib in
theorem Tryz.strings_HasPrefix (s p:ByteArray)(w:World):
 Calls Tryz.prog 287 #[.string s,.string p] w λe w'=>e= .returned (.bool<|Lib.hasPrefix s.data.toList p.data.toList)∧w'=w:=Any.strings_HasPrefix Tryz.lays99 s p w
def Tryz.lays101_ren :Go.Shelf.Ren:=⟨λ|101=>106|208=>155|206=>213|n=>n,λ|9=>9|4=>4|3=>3|n=>n,λ|n=>n⟩
theorem Tryz.lays101 :Go.Proofs.Lays.n101 Tryz.prog Tryz.lays101_ren:=by constructor<;>first|kernel_rfl|(intro w;kernel_rfl)
open Go.RowKit Go.Lib in
theorem Tryz.strings_TrimPrefix (s p:ByteArray)(w:World):
 Calls Tryz.prog 106 #[.string s,.string p] w λe w'=>e= .returned (.string ⟨(Lib.trimPrefix s.data.toList p.data.toList).toArray⟩)∧w'=w:=Any.strings_TrimPrefix Tryz.lays101 s p w
def Tryz.lays230_ren :Go.Shelf.Ren:=⟨λ|230=>95|197=>143|118=>144|165=>145|166=>46|168=>146|270=>147|167=>88|169=>55|260=>210|240=>86|241=>211|242=>212|276=>127|277=>257|278=>258|n=>n,λ|107=>162|9=>9|72=>106|0=>0|4=>4|3=>3|21=>21|105=>206|76=>111|5=>5|75=>110|70=>104|20=>20|37=>40|127=>155|119=>202|46=>159|139=>205|138=>204|164=>193|51=>251|80=>119|n=>n,λ|3=>0|4=>1|n=>n⟩
theorem Tryz.lays230 :Go.Proofs.Lays.n230 Tryz.prog Tryz.lays230_ren:=by constructor<;>first|kernel_rfl|(intro w;kernel_rfl)
theorem Tryz.Builder_Extra_230 :Builder.Extra Tryz.prog Tryz.lays230_ren:={
 sizeBuilder:=by kernel_rfl
 liesBuilder:=by kernel_rfl
 t5:=Tryz.underlying5
 a5:=Tryz.isAgg5
 z5:=Tryz.sizeOf5
 v5:=Tryz.zeroValue5
 infoByte:=by kernel_rfl
 cellsByte:=by kernel_rfl
 sizeByte:=by kernel_rfl
 neB5:=by decide}
open Go.RowKit Go.Lib in
theorem Tryz.strings_Map_grows (g:Nat)(lb:Array Value)(eg:∀args w,(callFunc g args).run Tryz.prog w= .ok (.enter g args) w)(f:Int→Int)(s:ByteArray)(w:World)(hs:s.size<35184372088832)(hf:MapGrows Tryz.prog g lb f w)(hnn:∀x:Nat,x≤1114111→-2147483648≤f x∧f x≤2147483647)(hT:Lib.Utf8Tabs 0 1 w):
 Calls Tryz.prog 95 #[.func (.func g) #[] lb,.string s] w λe w'=>e= .returned (.string ⟨(Lib.mapD f s.data.toList).toArray⟩)∧Below w.heap.size w w':=Any.strings_Map_grows Tryz.lays230 Tryz.Builder_Extra_230 g lb eg f s w hs hf hnn hT
def Tryz.lays194_ren :Go.Shelf.Ren:=⟨λ|194=>85|n=>n,λ|31=>36|9=>9|3=>3|4=>4|0=>0|n=>n,λ|n=>n⟩
theorem Tryz.lays194 :Go.Proofs.Lays.n194 Tryz.prog Tryz.lays194_ren:=by constructor<;>first|kernel_rfl|(intro w;kernel_rfl)
open Go.RowKit Go.Lib Go.Sort in
theorem Tryz.slices_Compact_string_arr (blk off cap:Nat)(d:Array<|List UInt8)(w:World)(hH:Holds encStr w blk off d)(hsz:d.size≤9223372036854775807)(hcap:d.size≤cap):
 Calls Tryz.prog 85 #[.slice (some ⟨blk,off,none⟩) d.size cap] w λe w'=>e= .returned (.slice (some ⟨blk,off,none⟩) (compactUpTo d d.size).length cap)∧∃q,w'=putRow encStr (Sort.ahead w q) blk off (compactUpTo d d.size++List.replicate (d.size-(compactUpTo d d.size).length) []).toArray:=Any.slices_Compact_string_arr Tryz.lays194 blk off cap d w hH hsz hcap
def Tryz.laysValid_ren :Go.Shelf.Ren:=⟨λ|196=>93|259=>142|n=>n,λ|9=>9|4=>4|3=>3|5=>5|12=>12|119=>202|0=>0|46=>159|139=>205|138=>204|53=>253|n=>n,λ|3=>0|4=>1|n=>n⟩
theorem Tryz.laysValid :Go.Proofs.Lays.n196 Tryz.prog Tryz.laysValid_ren:=by constructor<;>first|kernel_rfl|(intro w;kernel_rfl)
open Go.Sort Go.RowKit in
theorem Tryz.utf8_ValidString (s:ByteArray)(w:World)(hs:s.size≤9223372036854775807)(hT:Lib.Utf8Tabs 0 1 w):
 Calls Tryz.prog 93 #[.string s] w λe w'=>e= .returned (.bool<|Lib.validD s.data.toList)∧Below w.heap.size w w':=Any.utf8_ValidString Tryz.laysValid s w hs hT
end Go.Proofs
