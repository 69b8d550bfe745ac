/-
  DERIVED: THE SHELF's CONTRACTS AT THIS DUMP, IN PLAIN WORDS (tools/lay-plain.mjs out of 'TryzShelf.lean', which tools/lay-shelf.mjs wrote): THE SAME DECLARATIONS UNDER THE SAME NAMES: 'import', 'namespace', 'open', 'def', 'theorem' AND NOTHING ELSE: no command of the shelf's: FOR A HAND-IN. Each laying: the table of numbers ('.._ren') and one theorem, a field a fact of the dump's own or the kernel's comparison; each contract: ONE APPLICATION.
-/
import Derived.Shelf.Strings.Builder1
import Derived.Shelf.Strings.Builder2
import Derived.Shelf.Strings.Trim
import Derived.Shelf.Small.Utf8
import Derived.Shelf.Small.Bits
import Derived.Shelf.Small.Strs
import Derived.Shelf.Small.Wraps
import Derived.Shelf.Strings.BuilderF
import Derived.Shelf.Strings.BuilderK
import Derived.Shelf.Strings.Builder2Cap
import Derived.Shelf.Strconv.Itoa0
import Derived.Shelf.Strconv.Itoa1
import Derived.Shelf.LaysM
import Derived.Shelf.Strconv.Itoa2
import Derived.Shelf.Strings.Search1
import Derived.Shelf.Strings.Search2
import Derived.Shelf.Strings.Search3
import Derived.Shelf.Strings.Cut
import Derived.Shelf.Strings.Shaped
import Derived.Shelf.Sort.Plain
import Derived.Shelf.Strings.Prefix
import Derived.Shelf.Unicode.Decode
import Derived.Shelf.Strings.Runes
import Derived.Shelf.Strings.AsciiSet
import Derived.Shelf.Bits.Mul64
import Derived.Shelf.Strings.Repeat
import Derived.Shelf.Unicode.DecodeSlow
import Derived.Shelf.Unicode.DecodeAny
import Derived.Shelf.Strings.BuilderCap
import Derived.Shelf.Slices.CompactS
import Derived.Ground.Names2Prog
import Derived.Shelf.Slices.SearchI
import Derived.Shelf.Slices.Cells
import Derived.Shelf.Slices.In.SortNone
import Derived.Ground.SlgnProg
import Derived.Shelf.SlicesE.Clone
import Derived.Test.YtikbnnljjeefgaaGreatDoorProg
set_option maxHeartbeats 100000000
set_option linter.all false
open Go.Proofs.Tryz
namespace Go.Proofs
open Go.Shelf
def Tryz.lays169_ren:Go.Shelf.Ren:=⟨fun|169=>33|n=>n,fun|70=>49|9=>9|0=>0|72=>52|37=>50|127=>94|3=>3|5=>5|n=>n,fun|n=>n⟩
theorem Tryz.lays169:Go.Proofs.Lays.n169 Tryz.prog Tryz.lays169_ren:={
 mixed:=by kernel_rfl
 f169:=func33.trans (congrArg some (by kernel_rfl))
 t0:=underlying0
 a0:=isAgg0
 z0:=sizeOf0
 v0:=zeroValue0
 t3:=underlying3
 a3:=isAgg3
 z3:=sizeOf3
 v3:=zeroValue3
 t9:=underlying9
 a9:=isAgg9
 z9:=sizeOf9
 v9:=zeroValue9
 t37:=underlying50
 a37:=isAgg50
 z37:=sizeOf50
 v37:=zeroValue50
 t70:=underlying49
 a70:=isAgg49
 z70:=sizeOf49
 v70:=zeroValue49
 t72:=underlying52
 a72:=isAgg52
 z72:=sizeOf52
 v72:=zeroValue52
 t127:=underlying94
 a127:=isAgg94
 z127:=sizeOf94
 v127:=zeroValue94 }
theorem Tryz.Builder_Extra_169:Builder.Extra Tryz.prog Tryz.lays169_ren:={
 sizeBuilder:=by kernel_rfl
 liesBuilder:=by kernel_rfl
 t5:=underlying5
 a5:=isAgg5
 z5:=sizeOf5
 v5:=zeroValue5
 infoByte:=by kernel_rfl
 cellsByte:=by kernel_rfl
 sizeByte:=by kernel_rfl
 neB5:=by decide }
def Tryz.lays161_ren:Go.Shelf.Ren:=⟨fun|161=>229|231=>233|227=>234|233=>235|235=>236|228=>238|197=>239|151=>240|260=>242|152=>243|137=>108|119=>244|224=>213|225=>212|217=>150|266=>181|n=>n,fun|9=>9|4=>4|3=>3|5=>5|117=>215|116=>214|0=>0|124=>218|105=>220|21=>21|119=>224|46=>114|139=>227|138=>226|n=>n,fun|3=>6|4=>7|n=>n⟩
theorem Tryz.lays161:Go.Proofs.Lays.n161 Tryz.prog Tryz.lays161_ren:={
 mixed:=by kernel_rfl
 f119:=func244.trans (congrArg some (by kernel_rfl))
 f137:=func108.trans (congrArg some (by kernel_rfl))
 f151:=func240.trans (congrArg some (by kernel_rfl))
 f152:=func243.trans (congrArg some (by kernel_rfl))
 f161:=func229.trans (congrArg some (by kernel_rfl))
 f197:=func239.trans (congrArg some (by kernel_rfl))
 f217:=func150.trans (congrArg some (by kernel_rfl))
 f224:=func213.trans (congrArg some (by kernel_rfl))
 f225:=func212.trans (congrArg some (by kernel_rfl))
 f227:=func234.trans (congrArg some (by kernel_rfl))
 f228:=func238.trans (congrArg some (by kernel_rfl))
 f231:=func233.trans (congrArg some (by kernel_rfl))
 f233:=func235.trans (congrArg some (by kernel_rfl))
 f235:=func236.trans (congrArg some (by kernel_rfl))
 f260:=func242.trans (congrArg some (by kernel_rfl))
 f266:=func181.trans (congrArg some (by kernel_rfl))
 t0:=underlying0
 a0:=isAgg0
 z0:=sizeOf0
 v0:=zeroValue0
 t3:=underlying3
 a3:=isAgg3
 z3:=sizeOf3
 v3:=zeroValue3
 t4:=underlying4
 a4:=isAgg4
 z4:=sizeOf4
 v4:=zeroValue4
 t5:=underlying5
 a5:=isAgg5
 z5:=sizeOf5
 v5:=zeroValue5
 t9:=underlying9
 a9:=isAgg9
 z9:=sizeOf9
 v9:=zeroValue9
 t21:=underlying21
 a21:=isAgg21
 z21:=sizeOf21
 v21:=zeroValue21
 t46:=underlying114
 a46:=isAgg114
 z46:=sizeOf114
 v46:=zeroValue114
 t105:=underlying220
 a105:=isAgg220
 z105:=sizeOf220
 v105:=zeroValue220
 t116:=underlying214
 a116:=isAgg214
 z116:=sizeOf214
 t117:=underlying215
 a117:=isAgg215
 z117:=sizeOf215
 v117:=zeroValue215
 t119:=underlying224
 a119:=isAgg224
 z119:=sizeOf224
 t124:=underlying218
 a124:=isAgg218
 z124:=sizeOf218
 v124:=zeroValue218
 t138:=underlying226
 a138:=isAgg226
 z138:=sizeOf226
 v138:=zeroValue226
 t139:=underlying227
 a139:=isAgg227
 z139:=sizeOf227
 v139:=zeroValue227
 g3:=by kernel_rfl
 g4:=by kernel_rfl }
open Go.RowKit in
theorem Tryz.strings_TrimLeft_one (s:ByteArray) (c:UInt8) (hc:c.toNat<128) (w:World):
 Calls Tryz.prog 229 #[.string s, .string ⟨#[c]⟩] w fun e w'=>e= .returned (.string ⟨(Lib.trimLeftB s.data.toList c).toArray⟩)∧w'=w:=Any.strings_TrimLeft_one Tryz.lays161 s c hc w
def Tryz.lays133_ren:Go.Shelf.Ren:=⟨fun|133=>187|128=>125|n=>n,fun|51=>82|3=>3|4=>4|46=>114|5=>5|9=>9|n=>n,fun|n=>n⟩
theorem Tryz.lays133:Go.Proofs.Lays.n133 Tryz.prog Tryz.lays133_ren:={
 mixed:=by kernel_rfl
 f128:=func125.trans (congrArg some (by kernel_rfl))
 f133:=func187.trans (congrArg some (by kernel_rfl))
 t3:=underlying3
 a3:=isAgg3
 z3:=sizeOf3
 v3:=zeroValue3
 t4:=underlying4
 a4:=isAgg4
 z4:=sizeOf4
 v4:=zeroValue4
 t5:=underlying5
 a5:=isAgg5
 z5:=sizeOf5
 v5:=zeroValue5
 t9:=underlying9
 a9:=isAgg9
 z9:=sizeOf9
 v9:=zeroValue9
 t46:=underlying114
 a46:=isAgg114
 z46:=sizeOf114
 v46:=zeroValue114
 t51:=underlying82
 a51:=isAgg82
 z51:=sizeOf82
 v51:=zeroValue82 }
theorem Tryz.bits_LeadingZeros32 (x:Int) (w:World) (h0:0≤x) (h1:x≤4294967295):
 Calls Tryz.prog 187 #[.int .u32 x] w fun e w'=>e= .returned (.int .i64 (32-(Lib.bitLen x.toNat:Int)))∧w'=w:=Any.bits_LeadingZeros32 Tryz.lays133 x w h0 h1
def Tryz.lays137_ren:Go.Shelf.Ren:=⟨fun|137=>108|217=>150|266=>181|n=>n,fun|9=>9|5=>5|3=>3|n=>n,fun|n=>n⟩
theorem Tryz.lays137:Go.Proofs.Lays.n137 Tryz.prog Tryz.lays137_ren:={
 mixed:=by kernel_rfl
 f137:=func108.trans (congrArg some (by kernel_rfl))
 f217:=func150.trans (congrArg some (by kernel_rfl))
 f266:=func181.trans (congrArg some (by kernel_rfl))
 t3:=underlying3
 a3:=isAgg3
 z3:=sizeOf3
 v3:=zeroValue3
 t5:=underlying5
 a5:=isAgg5
 z5:=sizeOf5
 v5:=zeroValue5
 t9:=underlying9
 a9:=isAgg9
 z9:=sizeOf9
 v9:=zeroValue9 }
open Go.RowKit in
theorem Tryz.strings_IndexByte (s:ByteArray) (c:Int) (w:World):
 Calls Tryz.prog 108 #[.string s, .int .u8 c] w fun e w'=>e= .returned (.int .i64 (Lib.indexByte s.data.toList c.toNat.toUInt8))∧w'=w:=Any.strings_IndexByte Tryz.lays137 s c w
def Tryz.lays103_ren:Go.Shelf.Ren:=⟨fun|103=>215|210=>222|206=>171|n=>n,fun|9=>9|4=>4|24=>56|3=>3|n=>n,fun|n=>n⟩
theorem Tryz.lays103:Go.Proofs.Lays.n103 Tryz.prog Tryz.lays103_ren:={
 mixed:=by kernel_rfl
 f103:=func215.trans (congrArg some (by kernel_rfl))
 f206:=func171.trans (congrArg some (by kernel_rfl))
 f210:=func222.trans (congrArg some (by kernel_rfl))
 t3:=underlying3
 a3:=isAgg3
 z3:=sizeOf3
 v3:=zeroValue3
 t4:=underlying4
 a4:=isAgg4
 z4:=sizeOf4
 v4:=zeroValue4
 t9:=underlying9
 a9:=isAgg9
 z9:=sizeOf9
 v9:=zeroValue9
 t24:=underlying56
 a24:=isAgg56
 z24:=sizeOf56
 v24:=zeroValue56 }
open Go.RowKit in
theorem Tryz.strings_CutPrefix (s p:ByteArray) (w:World):
 Calls Tryz.prog 215 #[.string s, .string p] w fun e w'=>e= .returned (.tuple #[.string ⟨(Lib.trimPrefix s.data.toList p.data.toList).toArray⟩, .bool (Lib.hasPrefix s.data.toList p.data.toList)])∧w'=w:=Any.strings_CutPrefix Tryz.lays103 s p w
open Go.RowKit in
theorem Tryz.Builder_String_any_k (B b:Nat) (l:List UInt8) (w:World) (h:Lib.IsBuilderF 52 5 B b (Lib.byteCells l) w) (hBw:B≤w.heap.size):
 Calls Tryz.prog 33 #[.pointer (some ⟨b,0,none⟩)] w fun e w'=>e= .returned (.string ⟨l.toArray⟩)∧(Lib.IsBuilderF 52 5 B b (Lib.byteCells l) w'∧Below B w w'∧Lib.OthersKept 5 (some b) w w'):=Any.Builder_String_any_k Tryz.lays169 Tryz.Builder_Extra_169 B b l w h hBw
def Tryz.lays283_ren:Go.Shelf.Ren:=⟨fun|283=>194|n=>n,fun|3=>3|9=>9|4=>4|n=>n,fun|n=>n⟩
theorem Tryz.lays283:Go.Proofs.Lays.n283 Tryz.prog Tryz.lays283_ren:={
 mixed:=by kernel_rfl
 f283:=func194.trans (congrArg some (by kernel_rfl))
 t3:=underlying3
 a3:=isAgg3
 z3:=sizeOf3
 v3:=zeroValue3
 t4:=underlying4
 a4:=isAgg4
 z4:=sizeOf4
 v4:=zeroValue4
 t9:=underlying9
 a9:=isAgg9
 z9:=sizeOf9
 v9:=zeroValue9 }
open Go.Lib in
theorem Tryz.internal_strconv_small (i:Nat) (h:i<100) (w:World):
 Calls Tryz.prog 194 #[.int .i64 i] w fun e w'=>e= .returned (.string ⟨(Lib.decDigits i).toArray⟩)∧w'=w:=Any.internal_strconv_small Tryz.lays283 i h w
def Tryz.laysM284_ren:Go.Shelf.Ren:=⟨fun|284=>195|129=>126|317=>208|318=>209|n=>n,fun|53=>123|3=>3|212=>196|0=>0|4=>4|46=>114|5=>5|9=>9|n=>n,fun|17=>3|n=>n⟩
theorem Tryz.laysM284:Go.Proofs.LaysM.n284 Tryz.prog Tryz.laysM284_ren:={
 mixed:=by kernel_rfl
 f129:=func126.trans (congrArg some (by kernel_rfl))
 f284:=func195.trans (congrArg some (by kernel_rfl))
 f317:=func208.trans (congrArg some (by kernel_rfl))
 f318:=func209.trans (congrArg some (by kernel_rfl))
 t0:=underlying0
 a0:=isAgg0
 z0:=sizeOf0
 v0:=zeroValue0
 t3:=underlying3
 a3:=isAgg3
 z3:=sizeOf3
 v3:=zeroValue3
 t4:=underlying4
 a4:=isAgg4
 z4:=sizeOf4
 v4:=zeroValue4
 t5:=underlying5
 a5:=isAgg5
 z5:=sizeOf5
 v5:=zeroValue5
 t9:=underlying9
 a9:=isAgg9
 z9:=sizeOf9
 v9:=zeroValue9
 t46:=underlying114
 a46:=isAgg114
 z46:=sizeOf114
 v46:=zeroValue114
 t53:=underlying123
 a53:=isAgg123
 z53:=sizeOf123
 v53:=zeroValue123
 t212:=underlying196
 a212:=isAgg196
 z212:=sizeOf196
 v212:=zeroValue196
 g17:=by kernel_rfl
 i0:=by kernel_rfl
 i3:=by kernel_rfl
 i4:=by kernel_rfl
 i5:=by kernel_rfl
 i9:=by kernel_rfl
 i46:=by kernel_rfl
 i53:=by kernel_rfl
 i212:=by kernel_rfl
 m17:=by kernel_rfl }
open Go.Lib in
theorem Tryz.internal_strconv_numDigits (u:Nat) (h1:1≤u) (h2:u<18446744073709551616) (w:World) (htab:Lib.TabIs Tryz.prog w "internal/strconv.uint64pow10" .u64 Lib.pow10Tab):
 Calls Tryz.prog 195 #[.int .u64 u] w fun e w'=>e= .returned (.int .i64 (Lib.nDigits u))∧w'=w:=Any.internal_strconv_numDigits Tryz.laysM284 u h1 h2 w htab
def Tryz.lays285_ren:Go.Shelf.Ren:=⟨fun|285=>196|n=>n,fun|37=>50|53=>123|3=>3|4=>4|51=>82|9=>9|5=>5|0=>0|n=>n,fun|n=>n⟩
theorem Tryz.lays285:Go.Proofs.Lays.n285 Tryz.prog Tryz.lays285_ren:={
 mixed:=by kernel_rfl
 f285:=func196.trans (congrArg some (by kernel_rfl))
 t0:=underlying0
 a0:=isAgg0
 z0:=sizeOf0
 v0:=zeroValue0
 t3:=underlying3
 a3:=isAgg3
 z3:=sizeOf3
 v3:=zeroValue3
 t4:=underlying4
 a4:=isAgg4
 z4:=sizeOf4
 v4:=zeroValue4
 t5:=underlying5
 a5:=isAgg5
 z5:=sizeOf5
 v5:=zeroValue5
 t9:=underlying9
 a9:=isAgg9
 z9:=sizeOf9
 v9:=zeroValue9
 t37:=underlying50
 a37:=isAgg50
 z37:=sizeOf50
 v37:=zeroValue50
 t51:=underlying82
 a51:=isAgg82
 z51:=sizeOf82
 v51:=zeroValue82
 t53:=underlying123
 a53:=isAgg123
 z53:=sizeOf123
 v53:=zeroValue123 }
open Go.RowKit Go.Sort Go.Lib in
theorem Tryz.internal_strconv_formatBase10 (blk off cap:Nat) (u:Nat) (d:Array UInt8) (w:World) (hH:Holds (fun(b:UInt8)=>Value.int .u8 (b.toNat:Int)) w blk off d) (hu:u<10^d.size) (hu64:u<18446744073709551616) (hsz:d.size<4611686018427387904):
 Calls Tryz.prog 196 #[.slice (some ⟨blk,off,none⟩) d.size cap, .int .u64 u] w fun e w'=>
  e= .returned (.tuple #[])∧ ∃(n v':Nat) (dk:Array UInt8),w'=(putRow (fun(b:UInt8)=>Value.int .u8 (b.toNat:Int)) w blk off dk).drewN n∧FmtInv d.size u 0 v' dk:=Any.internal_strconv_formatBase10 Tryz.lays285 blk off cap u d w hH hu hu64 hsz
def Tryz.lays219_ren:Go.Shelf.Ren:=⟨fun|219=>201|217=>150|225=>212|224=>213|267=>214|266=>181|314=>221|n=>n,fun|9=>9|3=>3|4=>4|5=>5|46=>114|146=>170|51=>82|n=>n,fun|1=>2|n=>n⟩
theorem Tryz.lays219:Go.Proofs.Lays.n219 Tryz.prog Tryz.lays219_ren:={
 mixed:=by kernel_rfl
 f217:=func150.trans (congrArg some (by kernel_rfl))
 f219:=func201.trans (congrArg some (by kernel_rfl))
 f224:=func213.trans (congrArg some (by kernel_rfl))
 f225:=func212.trans (congrArg some (by kernel_rfl))
 f266:=func181.trans (congrArg some (by kernel_rfl))
 f267:=func214.trans (congrArg some (by kernel_rfl))
 f314:=func221.trans (congrArg some (by kernel_rfl))
 t3:=underlying3
 a3:=isAgg3
 z3:=sizeOf3
 v3:=zeroValue3
 t4:=underlying4
 a4:=isAgg4
 z4:=sizeOf4
 v4:=zeroValue4
 t5:=underlying5
 a5:=isAgg5
 z5:=sizeOf5
 v5:=zeroValue5
 t9:=underlying9
 a9:=isAgg9
 z9:=sizeOf9
 v9:=zeroValue9
 t46:=underlying114
 a46:=isAgg114
 z46:=sizeOf114
 v46:=zeroValue114
 t51:=underlying82
 a51:=isAgg82
 z51:=sizeOf82
 v51:=zeroValue82
 t146:=underlying170
 a146:=isAgg170
 z146:=sizeOf170
 v146:=zeroValue170
 g1:=by kernel_rfl }
open Go.RowKit Go.Lib in
theorem Tryz.stringslite_Index_one (s:ByteArray) (c:UInt8) (w:World):
 Calls Tryz.prog 201 #[.string s, .string ⟨#[c]⟩] w fun e w'=>e= .returned (.int .i64 (Lib.indexByte s.data.toList c))∧w'=w:=Any.stringslite_Index_one Tryz.lays219 s c w
def Tryz.lays144_ren:Go.Shelf.Ren:=⟨fun|144=>151|143=>182|219=>201|217=>150|225=>212|224=>213|267=>214|266=>181|314=>221|n=>n,fun|9=>9|4=>4|3=>3|5=>5|46=>114|146=>170|51=>82|n=>n,fun|1=>2|n=>n⟩
theorem Tryz.lays144:Go.Proofs.Lays.n144 Tryz.prog Tryz.lays144_ren:={
 mixed:=by kernel_rfl
 f143:=func182.trans (congrArg some (by kernel_rfl))
 f144:=func151.trans (congrArg some (by kernel_rfl))
 f217:=func150.trans (congrArg some (by kernel_rfl))
 f219:=func201.trans (congrArg some (by kernel_rfl))
 f224:=func213.trans (congrArg some (by kernel_rfl))
 f225:=func212.trans (congrArg some (by kernel_rfl))
 f266:=func181.trans (congrArg some (by kernel_rfl))
 f267:=func214.trans (congrArg some (by kernel_rfl))
 f314:=func221.trans (congrArg some (by kernel_rfl))
 t3:=underlying3
 a3:=isAgg3
 z3:=sizeOf3
 v3:=zeroValue3
 t4:=underlying4
 a4:=isAgg4
 z4:=sizeOf4
 v4:=zeroValue4
 t5:=underlying5
 a5:=isAgg5
 z5:=sizeOf5
 v5:=zeroValue5
 t9:=underlying9
 a9:=isAgg9
 z9:=sizeOf9
 v9:=zeroValue9
 t46:=underlying114
 a46:=isAgg114
 z46:=sizeOf114
 v46:=zeroValue114
 t51:=underlying82
 a51:=isAgg82
 z51:=sizeOf82
 v51:=zeroValue82
 t146:=underlying170
 a146:=isAgg170
 z146:=sizeOf170
 v146:=zeroValue170
 g1:=by kernel_rfl }
open Go.RowKit Go.Lib in
theorem Tryz.strings_Contains_one (s:ByteArray) (c:UInt8) (w:World):
 Calls Tryz.prog 151 #[.string s, .string ⟨#[c]⟩] w fun e w'=>e= .returned (.bool (decide (0≤Lib.indexByte s.data.toList c)))∧w'=w:=Any.strings_Contains_one Tryz.lays144 s c w
def Tryz.lays190_ren:Go.Shelf.Ren:=⟨fun|190=>50|125=>82|258=>81|128=>125|129=>126|302=>116|303=>117|304=>118|305=>119|306=>120|307=>121|308=>122|309=>123|310=>124|333=>154|329=>155|330=>156|334=>157|335=>158|336=>159|344=>185|n=>n,fun|31=>44|9=>9|3=>3|46=>114|0=>0|51=>82|53=>123|4=>4|183=>132|182=>131|131=>137|5=>5|218=>160|222=>164|228=>181|229=>103|n=>n,fun|n=>n⟩
theorem Tryz.lays190:Go.Proofs.Lays.n190 Tryz.prog Tryz.lays190_ren:={
 mixed:=by kernel_rfl
 f125:=func82.trans (congrArg some (by kernel_rfl))
 f128:=func125.trans (congrArg some (by kernel_rfl))
 f129:=func126.trans (congrArg some (by kernel_rfl))
 f190:=func50.trans (congrArg some (by kernel_rfl))
 f258:=func81.trans (congrArg some (by kernel_rfl))
 f302:=func116.trans (congrArg some (by kernel_rfl))
 f303:=func117.trans (congrArg some (by kernel_rfl))
 f304:=func118.trans (congrArg some (by kernel_rfl))
 f305:=func119.trans (congrArg some (by kernel_rfl))
 f306:=func120.trans (congrArg some (by kernel_rfl))
 f307:=func121.trans (congrArg some (by kernel_rfl))
 f308:=func122.trans (congrArg some (by kernel_rfl))
 f309:=func123.trans (congrArg some (by kernel_rfl))
 f310:=func124.trans (congrArg some (by kernel_rfl))
 f329:=func155.trans (congrArg some (by kernel_rfl))
 f330:=func156.trans (congrArg some (by kernel_rfl))
 f333:=func154.trans (congrArg some (by kernel_rfl))
 f334:=func157.trans (congrArg some (by kernel_rfl))
 f335:=func158.trans (congrArg some (by kernel_rfl))
 f336:=func159.trans (congrArg some (by kernel_rfl))
 f344:=func185.trans (congrArg some (by kernel_rfl))
 t0:=underlying0
 a0:=isAgg0
 z0:=sizeOf0
 v0:=zeroValue0
 t3:=underlying3
 a3:=isAgg3
 z3:=sizeOf3
 v3:=zeroValue3
 t4:=underlying4
 a4:=isAgg4
 z4:=sizeOf4
 v4:=zeroValue4
 t5:=underlying5
 a5:=isAgg5
 z5:=sizeOf5
 v5:=zeroValue5
 t9:=underlying9
 a9:=isAgg9
 z9:=sizeOf9
 v9:=zeroValue9
 t31:=underlying44
 a31:=isAgg44
 z31:=sizeOf44
 v31:=zeroValue44
 t46:=underlying114
 a46:=isAgg114
 z46:=sizeOf114
 v46:=zeroValue114
 t51:=underlying82
 a51:=isAgg82
 z51:=sizeOf82
 v51:=zeroValue82
 t53:=underlying123
 a53:=isAgg123
 z53:=sizeOf123
 v53:=zeroValue123
 t131:=underlying137
 a131:=isAgg137
 z131:=sizeOf137
 v131:=zeroValue137
 t182:=underlying131
 a182:=isAgg131
 z182:=sizeOf131
 v182:=zeroValue131
 t183:=underlying132
 a183:=isAgg132
 z183:=sizeOf132
 v183:=zeroValue132
 t218:=underlying160
 a218:=isAgg160
 z218:=sizeOf160
 v218:=zeroValue160
 t222:=underlying164
 a222:=isAgg164
 z222:=sizeOf164
 v222:=zeroValue164
 t228:=underlying181
 a228:=isAgg181
 z228:=sizeOf181
 v228:=zeroValue181
 t229:=underlying103
 a229:=isAgg103
 z229:=sizeOf103
 v229:=zeroValue103 }
open Go.Sort Go.RowKit in
theorem Tryz.slices_Sort_string (blk off cap:Nat) (ss:List (List UInt8)) (w:World) (hH:Holds encStr w blk off ss.toArray) (hblk:blk<w.heap.size) (hsz:ss.length<4611686018427387904):
 Calls Tryz.prog 50 #[.slice (some ⟨blk,off,none⟩) ss.length cap] w fun e w'=>
  e= .returned (.tuple #[])∧ ∃n os,w'=grow (putRow encStr (Sort.ahead w n) blk off (ss.mergeSort fun x y=>decide (x≤y)).toArray) os:=Any.slices_Sort_string Tryz.lays190 blk off cap ss w hH hblk hsz
def Tryz.lays105_ren:Go.Shelf.Ren:=⟨fun|105=>93|212=>143|99=>144|165=>145|166=>57|170=>32|169=>33|263=>169|264=>170|206=>171|240=>85|241=>172|276=>127|277=>198|n=>n,fun|9=>9|3=>3|4=>4|20=>20|0=>0|46=>114|109=>151|5=>5|72=>52|76=>91|51=>82|146=>170|53=>123|148=>172|70=>49|37=>50|75=>90|127=>94|164=>141|80=>55|n=>n,fun|n=>n⟩
theorem Tryz.lays105:Go.Proofs.Lays.n105 Tryz.prog Tryz.lays105_ren:={
 mixed:=by kernel_rfl
 f99:=func144.trans (congrArg some (by kernel_rfl))
 f105:=func93.trans (congrArg some (by kernel_rfl))
 f165:=func145.trans (congrArg some (by kernel_rfl))
 f166:=func57.trans (congrArg some (by kernel_rfl))
 f169:=func33.trans (congrArg some (by kernel_rfl))
 f170:=func32.trans (congrArg some (by kernel_rfl))
 f206:=func171.trans (congrArg some (by kernel_rfl))
 f212:=func143.trans (congrArg some (by kernel_rfl))
 f240:=func85.trans (congrArg some (by kernel_rfl))
 f241:=func172.trans (congrArg some (by kernel_rfl))
 f263:=func169.trans (congrArg some (by kernel_rfl))
 f264:=func170.trans (congrArg some (by kernel_rfl))
 f276:=func127.trans (congrArg some (by kernel_rfl))
 f277:=func198.trans (congrArg some (by kernel_rfl))
 t0:=underlying0
 a0:=isAgg0
 z0:=sizeOf0
 v0:=zeroValue0
 t3:=underlying3
 a3:=isAgg3
 z3:=sizeOf3
 v3:=zeroValue3
 t4:=underlying4
 a4:=isAgg4
 z4:=sizeOf4
 v4:=zeroValue4
 t5:=underlying5
 a5:=isAgg5
 z5:=sizeOf5
 v5:=zeroValue5
 t9:=underlying9
 a9:=isAgg9
 z9:=sizeOf9
 v9:=zeroValue9
 t20:=underlying20
 a20:=isAgg20
 z20:=sizeOf20
 v20:=zeroValue20
 t37:=underlying50
 a37:=isAgg50
 z37:=sizeOf50
 v37:=zeroValue50
 t46:=underlying114
 a46:=isAgg114
 z46:=sizeOf114
 v46:=zeroValue114
 t51:=underlying82
 a51:=isAgg82
 z51:=sizeOf82
 v51:=zeroValue82
 t53:=underlying123
 a53:=isAgg123
 z53:=sizeOf123
 v53:=zeroValue123
 t70:=underlying49
 a70:=isAgg49
 z70:=sizeOf49
 v70:=zeroValue49
 t72:=underlying52
 a72:=isAgg52
 z72:=sizeOf52
 v72:=zeroValue52
 t75:=underlying90
 a75:=isAgg90
 z75:=sizeOf90
 v75:=zeroValue90
 t76:=underlying91
 a76:=isAgg91
 z76:=sizeOf91
 v76:=zeroValue91
 t109:=underlying151
 a109:=isAgg151
 z109:=sizeOf151
 v109:=zeroValue151
 t127:=underlying94
 a127:=isAgg94
 z127:=sizeOf94
 v127:=zeroValue94
 t146:=underlying170
 a146:=isAgg170
 z146:=sizeOf170
 v146:=zeroValue170
 t148:=underlying172
 a148:=isAgg172
 z148:=sizeOf172
 v148:=zeroValue172
 t164:=underlying141
 a164:=isAgg141
 z164:=sizeOf141
 v164:=zeroValue141 }
theorem Tryz.Builder_Extra_105:Builder.Extra Tryz.prog Tryz.lays105_ren:={
 sizeBuilder:=by kernel_rfl
 liesBuilder:=by kernel_rfl
 t5:=underlying5
 a5:=isAgg5
 z5:=sizeOf5
 v5:=zeroValue5
 infoByte:=by kernel_rfl
 cellsByte:=by kernel_rfl
 sizeByte:=by kernel_rfl
 neB5:=by decide }
open Go.RowKit Go.Lib in
theorem Tryz.strings_Repeat (s:ByteArray) (c:Nat) (w:World) (hc:c≤9223372036854775807) (hlen:s.size*c≤140737488355328):
 Calls Tryz.prog 93 #[.string s, .int .i64 c] w fun e w'=>e= .returned (.string ⟨(Lib.repeatL s.data.toList c).toArray⟩)∧Below w.heap.size w w':=Any.strings_Repeat Tryz.lays105 Tryz.Builder_Extra_105 s c w hc hlen
def Tryz.lays194_ren:Go.Shelf.Ren:=⟨fun|194=>51|n=>n,fun|31=>44|9=>9|3=>3|4=>4|0=>0|n=>n,fun|n=>n⟩
theorem Tryz.lays194:Go.Proofs.Lays.n194 Tryz.prog Tryz.lays194_ren:={
 mixed:=by kernel_rfl
 f194:=func51.trans (congrArg some (by kernel_rfl))
 t0:=underlying0
 a0:=isAgg0
 z0:=sizeOf0
 v0:=zeroValue0
 t3:=underlying3
 a3:=isAgg3
 z3:=sizeOf3
 v3:=zeroValue3
 t4:=underlying4
 a4:=isAgg4
 z4:=sizeOf4
 v4:=zeroValue4
 t9:=underlying9
 a9:=isAgg9
 z9:=sizeOf9
 v9:=zeroValue9
 t31:=underlying44
 a31:=isAgg44
 z31:=sizeOf44
 v31:=zeroValue44 }
open Go.RowKit Go.Lib Go.Sort in
theorem Tryz.slices_Compact_string (blk off cap:Nat) (zs:List (List UInt8)) (w:World) (hH:Holds encStr w blk off zs.toArray) (hsz:zs.length≤9223372036854775807) (hcap:zs.length≤cap):
 Calls Tryz.prog 51 #[.slice (some ⟨blk,off,none⟩) zs.length cap] w fun e w'=>e= .returned (.slice (some ⟨blk,off,none⟩) (Lib.compact zs).length cap)∧ ∃q,w'=putRow encStr (Sort.ahead w q) blk off (Lib.compact zs++List.replicate (zs.length-(Lib.compact zs).length) []).toArray:=Any.slices_Compact_string Tryz.lays194 blk off cap zs w hH hsz hcap
open Go.RowKit Go.Lib Go.Sort in
theorem Tryz.slices_Compact_string_empty (a:Option Addr) (cap:Nat) (w:World):
 Calls Tryz.prog 51 #[.slice a 0 cap] w fun e w'=>e= .returned (.slice a 0 cap)∧w'=w:=Any.slices_Compact_string_empty Tryz.lays194 a cap w
open Go.RowKit Go.Sort in
theorem Tryz.slices_Sort_string_none (p:Option Addr) (cap:Nat) (w:World):
 Calls Tryz.prog 50 #[.slice p 0 cap] w fun e w'=>e= .returned (.tuple #[])∧w'=w:=Any.slices_Sort_string_none Tryz.lays190 p cap w
def Tryz.laysSlE041_f47_ren:Go.Shelf.Ren:=⟨fun|41=>47|n=>n,fun|22=>22|23=>82|4=>4|n=>n,fun|n=>n⟩
theorem Tryz.laysSlE041_f47:Go.Proofs.SlLaysE0.n41 Tryz.prog Tryz.laysSlE041_f47_ren:={
 mixed:=by kernel_rfl
 f41:=⟨Tryz.f47.name,by decide,func47.trans (congrArg some (by kernel_rfl))⟩
 t4:=underlying4
 a4:=isAgg4
 z4:=sizeOf4
 v4:=zeroValue4
 t22:=underlying22
 a22:=isAgg22
 z22:=sizeOf22
 v22:=zeroValue22 }
open Go.RowKit Go.Lib in
theorem Tryz.slices_Clone (i0:TypeInfo) (z:Value) (size bytes:Nat) (hi:Tryz.prog.info? 82=some i0) (hz0:i0.zero=some z) (hz1:i0.size=size) (hz2:i0.bytes=bytes) (hzs:z.cells.size=size) (hsz:0<size) (z23:∀w,(Go.sizeOf 82).run Tryz.prog w= .ok size w) (b off n c:Nat) (news:List Value) (w:World) (hl:news.length=n*size) (hn:n≤maxLen) (hbig:n*bytes≤140737488355328) (hc:∀j u,news[j]? =some u→w.cell? ⟨b,off+j,none⟩=some u) (h1:∀u∈news,u.oneCell'=true):
 Calls Tryz.prog 47 #[.slice (some ⟨b,off,none⟩) n c] w fun e w'=>∃v',e= .returned v'∧w'.ownsRow w.heap.size 82 size v' n news∧v'≠ .slice none 0 0∧Below w.heap.size w w':=AnyE.slices_Clone Tryz.laysSlE041_f47 i0 z size bytes hi hz0 hz1 hz2 hzs hsz z23 b off n c news w hl hn hbig hc h1
end Go.Proofs
