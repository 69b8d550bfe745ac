/-
  DERIVED: THE SHELF's CONTRACTS AT THIS DUMP, IN PLAIN WORDS (tools/lay-plain.mjs out of 'TryzShelf.lean', which tools/lay-shelf.mjs wrote): THE SAME DECLARATIONS UNDER THE SAME NAMES: 'import', 'namespace', 'open', 'def', 'theorem' AND NOTHING ELSE: no command of the shelf's: FOR A HAND-IN. Each laying: the table of numbers ('.._ren') and one theorem, a field a fact of the dump's own or the kernel's comparison; each contract: ONE APPLICATION.
-/
import Derived.Test.YtmkggcjajcdlcaaGreatDoorVK
import Derived.Test.YtmkggcjajcdlcaaGreatDoorProg
set_option maxHeartbeats 100000000
set_option linter.all false
open Go.Proofs.Tryz
namespace Go.Proofs
open Go.Shelf
def Tryz.lays169_ren:Go.Shelf.Ren:=⟨fun|169=>220|n=>n,fun|70=>193|9=>9|0=>0|72=>196|37=>194|127=>237|3=>3|5=>5|n=>n,fun|n=>n⟩
theorem Tryz.lays169:Go.Proofs.Lays.n169 Tryz.prog Tryz.lays169_ren:={
 mixed:=by kernel_rfl
 f169:=func220.trans (congrArg some (by kernel_rfl))
 t0:=underlying0
 a0:=isAgg0
 z0:=sizeOf0
 v0:=zeroValue0
 t3:=underlying3
 a3:=isAgg3
 z3:=sizeOf3
 v3:=zeroValue3
 t9:=underlying9
 a9:=isAgg9
 z9:=sizeOf9
 v9:=zeroValue9
 t37:=underlying194
 a37:=isAgg194
 z37:=sizeOf194
 v37:=zeroValue194
 t70:=underlying193
 a70:=isAgg193
 z70:=sizeOf193
 v70:=zeroValue193
 t72:=underlying196
 a72:=isAgg196
 z72:=sizeOf196
 v72:=zeroValue196
 t127:=underlying237
 a127:=isAgg237
 z127:=sizeOf237
 v127:=zeroValue237 }
theorem Tryz.Builder_Extra_169:Builder.Extra Tryz.prog Tryz.lays169_ren:={
 sizeBuilder:=by kernel_rfl
 liesBuilder:=by kernel_rfl
 t5:=underlying5
 a5:=isAgg5
 z5:=sizeOf5
 v5:=zeroValue5
 infoByte:=by kernel_rfl
 cellsByte:=by kernel_rfl
 sizeByte:=by kernel_rfl
 neB5:=by decide }
def Tryz.lays133_ren:Go.Shelf.Ren:=⟨fun|133=>262|128=>191|n=>n,fun|51=>133|3=>3|4=>4|46=>136|5=>5|9=>9|n=>n,fun|n=>n⟩
theorem Tryz.lays133:Go.Proofs.Lays.n133 Tryz.prog Tryz.lays133_ren:={
 mixed:=by kernel_rfl
 f128:=func191.trans (congrArg some (by kernel_rfl))
 f133:=func262.trans (congrArg some (by kernel_rfl))
 t3:=underlying3
 a3:=isAgg3
 z3:=sizeOf3
 v3:=zeroValue3
 t4:=underlying4
 a4:=isAgg4
 z4:=sizeOf4
 v4:=zeroValue4
 t5:=underlying5
 a5:=isAgg5
 z5:=sizeOf5
 v5:=zeroValue5
 t9:=underlying9
 a9:=isAgg9
 z9:=sizeOf9
 v9:=zeroValue9
 t46:=underlying136
 a46:=isAgg136
 z46:=sizeOf136
 v46:=zeroValue136
 t51:=underlying133
 a51:=isAgg133
 z51:=sizeOf133
 v51:=zeroValue133 }
theorem Tryz.bits_LeadingZeros32 (x:Int) (w:World) (h0:0<=x) (h1:x<=4294967295):
 Calls Tryz.prog 262 #[.int .u32 x] w fun e w'=>e= .returned (.int .i64 (32-(Lib.bitLen x.toNat:Int)))/\w'=w:=Any.bits_LeadingZeros32 Tryz.lays133 x w h0 h1
open Go.RowKit in
theorem Tryz.Builder_String_any_k (B b:Nat) (l:List UInt8) (w:World) (h:Lib.IsBuilderF 196 5 B b (Lib.byteCells l) w) (hBw:B<=w.heap.size):
 Calls Tryz.prog 220 #[.pointer (some ⟨b,0,none⟩)] w fun e w'=>e= .returned (.string ⟨l.toArray⟩)/\(Lib.IsBuilderF 196 5 B b (Lib.byteCells l) w'/\Below B w w'/\Lib.OthersKept 5 (some b) w w'):=Any.Builder_String_any_k Tryz.lays169 Tryz.Builder_Extra_169 B b l w h hBw
def Tryz.lays283_ren:Go.Shelf.Ren:=⟨fun|283=>288|n=>n,fun|3=>3|9=>9|4=>4|n=>n,fun|n=>n⟩
theorem Tryz.lays283:Go.Proofs.Lays.n283 Tryz.prog Tryz.lays283_ren:={
 mixed:=by kernel_rfl
 f283:=func288.trans (congrArg some (by kernel_rfl))
 t3:=underlying3
 a3:=isAgg3
 z3:=sizeOf3
 v3:=zeroValue3
 t4:=underlying4
 a4:=isAgg4
 z4:=sizeOf4
 v4:=zeroValue4
 t9:=underlying9
 a9:=isAgg9
 z9:=sizeOf9
 v9:=zeroValue9 }
open Go.Lib in
theorem Tryz.internal_strconv_small (i:Nat) (h:i<100) (w:World):
 Calls Tryz.prog 288 #[.int .i64 i] w fun e w'=>e= .returned (.string ⟨(Lib.decDigits i).toArray⟩)/\w'=w:=Any.internal_strconv_small Tryz.lays283 i h w
def Tryz.laysM284_ren:Go.Shelf.Ren:=⟨fun|284=>289|129=>192|317=>303|318=>304|n=>n,fun|53=>148|3=>3|212=>270|0=>0|4=>4|46=>136|5=>5|9=>9|n=>n,fun|17=>3|n=>n⟩
theorem Tryz.laysM284:Go.Proofs.LaysM.n284 Tryz.prog Tryz.laysM284_ren:={
 mixed:=by kernel_rfl
 f129:=func192.trans (congrArg some (by kernel_rfl))
 f284:=func289.trans (congrArg some (by kernel_rfl))
 f317:=func303.trans (congrArg some (by kernel_rfl))
 f318:=func304.trans (congrArg some (by kernel_rfl))
 t0:=underlying0
 a0:=isAgg0
 z0:=sizeOf0
 v0:=zeroValue0
 t3:=underlying3
 a3:=isAgg3
 z3:=sizeOf3
 v3:=zeroValue3
 t4:=underlying4
 a4:=isAgg4
 z4:=sizeOf4
 v4:=zeroValue4
 t5:=underlying5
 a5:=isAgg5
 z5:=sizeOf5
 v5:=zeroValue5
 t9:=underlying9
 a9:=isAgg9
 z9:=sizeOf9
 v9:=zeroValue9
 t46:=underlying136
 a46:=isAgg136
 z46:=sizeOf136
 v46:=zeroValue136
 t53:=underlying148
 a53:=isAgg148
 z53:=sizeOf148
 v53:=zeroValue148
 t212:=underlying270
 a212:=isAgg270
 z212:=sizeOf270
 v212:=zeroValue270
 g17:=by kernel_rfl
 i0:=by kernel_rfl
 i3:=by kernel_rfl
 i4:=by kernel_rfl
 i5:=by kernel_rfl
 i9:=by kernel_rfl
 i46:=by kernel_rfl
 i53:=by kernel_rfl
 i212:=by kernel_rfl
 m17:=by kernel_rfl }
open Go.Lib in
theorem Tryz.internal_strconv_numDigits (u:Nat) (h1:1<=u) (h2:u<18446744073709551616) (w:World) (htab:Lib.TabIs Tryz.prog w "internal/strconv.uint64pow10" .u64 Lib.pow10Tab):
 Calls Tryz.prog 289 #[.int .u64 u] w fun e w'=>e= .returned (.int .i64 (Lib.nDigits u))/\w'=w:=Any.internal_strconv_numDigits Tryz.laysM284 u h1 h2 w htab
def Tryz.lays285_ren:Go.Shelf.Ren:=⟨fun|285=>290|n=>n,fun|37=>194|53=>148|3=>3|4=>4|51=>133|9=>9|5=>5|0=>0|n=>n,fun|n=>n⟩
theorem Tryz.lays285:Go.Proofs.Lays.n285 Tryz.prog Tryz.lays285_ren:={
 mixed:=by kernel_rfl
 f285:=func290.trans (congrArg some (by kernel_rfl))
 t0:=underlying0
 a0:=isAgg0
 z0:=sizeOf0
 v0:=zeroValue0
 t3:=underlying3
 a3:=isAgg3
 z3:=sizeOf3
 v3:=zeroValue3
 t4:=underlying4
 a4:=isAgg4
 z4:=sizeOf4
 v4:=zeroValue4
 t5:=underlying5
 a5:=isAgg5
 z5:=sizeOf5
 v5:=zeroValue5
 t9:=underlying9
 a9:=isAgg9
 z9:=sizeOf9
 v9:=zeroValue9
 t37:=underlying194
 a37:=isAgg194
 z37:=sizeOf194
 v37:=zeroValue194
 t51:=underlying133
 a51:=isAgg133
 z51:=sizeOf133
 v51:=zeroValue133
 t53:=underlying148
 a53:=isAgg148
 z53:=sizeOf148
 v53:=zeroValue148 }
open Go.RowKit Go.Sort Go.Lib in
theorem Tryz.internal_strconv_formatBase10 (blk off cap:Nat) (u:Nat) (d:Array UInt8) (w:World) (hH:Holds (fun(b:UInt8)=>Value.int .u8 (b.toNat:Int)) w blk off d) (hu:u<10^d.size) (hu64:u<18446744073709551616) (hsz:d.size<4611686018427387904):
 Calls Tryz.prog 290 #[.slice (some ⟨blk,off,none⟩) d.size cap, .int .u64 u] w fun e w'=>
  e= .returned (.tuple #[])/\ ∃(n v':Nat) (dk:Array UInt8),w'=(putRow (fun(b:UInt8)=>Value.int .u8 (b.toNat:Int)) w blk off dk).drewN n/\FmtInv d.size u 0 v' dk:=Any.internal_strconv_formatBase10 Tryz.lays285 blk off cap u d w hH hu hu64 hsz
def Tryz.lays190_ren:Go.Shelf.Ren:=⟨fun|190=>71|125=>129|258=>128|128=>191|129=>192|302=>183|303=>184|304=>185|305=>186|306=>187|307=>188|308=>130|309=>189|310=>190|333=>245|329=>246|330=>247|334=>248|335=>249|336=>193|344=>279|n=>n,fun|31=>25|9=>9|3=>3|46=>136|0=>0|51=>133|53=>148|4=>4|183=>179|182=>178|131=>92|5=>5|218=>218|222=>222|228=>239|229=>240|n=>n,fun|n=>n⟩
theorem Tryz.lays190:Go.Proofs.Lays.n190 Tryz.prog Tryz.lays190_ren:={
 mixed:=by kernel_rfl
 f125:=func129.trans (congrArg some (by kernel_rfl))
 f128:=func191.trans (congrArg some (by kernel_rfl))
 f129:=func192.trans (congrArg some (by kernel_rfl))
 f190:=func71.trans (congrArg some (by kernel_rfl))
 f258:=func128.trans (congrArg some (by kernel_rfl))
 f302:=func183.trans (congrArg some (by kernel_rfl))
 f303:=func184.trans (congrArg some (by kernel_rfl))
 f304:=func185.trans (congrArg some (by kernel_rfl))
 f305:=func186.trans (congrArg some (by kernel_rfl))
 f306:=func187.trans (congrArg some (by kernel_rfl))
 f307:=func188.trans (congrArg some (by kernel_rfl))
 f308:=func130.trans (congrArg some (by kernel_rfl))
 f309:=func189.trans (congrArg some (by kernel_rfl))
 f310:=func190.trans (congrArg some (by kernel_rfl))
 f329:=func246.trans (congrArg some (by kernel_rfl))
 f330:=func247.trans (congrArg some (by kernel_rfl))
 f333:=func245.trans (congrArg some (by kernel_rfl))
 f334:=func248.trans (congrArg some (by kernel_rfl))
 f335:=func249.trans (congrArg some (by kernel_rfl))
 f336:=func193.trans (congrArg some (by kernel_rfl))
 f344:=func279.trans (congrArg some (by kernel_rfl))
 t0:=underlying0
 a0:=isAgg0
 z0:=sizeOf0
 v0:=zeroValue0
 t3:=underlying3
 a3:=isAgg3
 z3:=sizeOf3
 v3:=zeroValue3
 t4:=underlying4
 a4:=isAgg4
 z4:=sizeOf4
 v4:=zeroValue4
 t5:=underlying5
 a5:=isAgg5
 z5:=sizeOf5
 v5:=zeroValue5
 t9:=underlying9
 a9:=isAgg9
 z9:=sizeOf9
 v9:=zeroValue9
 t31:=underlying25
 a31:=isAgg25
 z31:=sizeOf25
 v31:=zeroValue25
 t46:=underlying136
 a46:=isAgg136
 z46:=sizeOf136
 v46:=zeroValue136
 t51:=underlying133
 a51:=isAgg133
 z51:=sizeOf133
 v51:=zeroValue133
 t53:=underlying148
 a53:=isAgg148
 z53:=sizeOf148
 v53:=zeroValue148
 t131:=underlying92
 a131:=isAgg92
 z131:=sizeOf92
 v131:=zeroValue92
 t182:=underlying178
 a182:=isAgg178
 z182:=sizeOf178
 v182:=zeroValue178
 t183:=underlying179
 a183:=isAgg179
 z183:=sizeOf179
 v183:=zeroValue179
 t218:=underlying218
 a218:=isAgg218
 z218:=sizeOf218
 v218:=zeroValue218
 t222:=underlying222
 a222:=isAgg222
 z222:=sizeOf222
 v222:=zeroValue222
 t228:=underlying239
 a228:=isAgg239
 z228:=sizeOf239
 v228:=zeroValue239
 t229:=underlying240
 a229:=isAgg240
 z229:=sizeOf240
 v229:=zeroValue240 }
open Go.Sort Go.RowKit in
theorem Tryz.slices_Sort_string (blk off cap:Nat) (ss:List (List UInt8)) (w:World) (hH:Holds encStr w blk off ss.toArray) (hblk:blk<w.heap.size) (hsz:ss.length<4611686018427387904):
 Calls Tryz.prog 71 #[.slice (some ⟨blk,off,none⟩) ss.length cap] w fun e w'=>
  e= .returned (.tuple #[])/\ ∃n os,w'=grow (putRow encStr (Sort.ahead w n) blk off (ss.mergeSort fun x y=>decide (x<=y)).toArray) os:=Any.slices_Sort_string Tryz.lays190 blk off cap ss w hH hblk hsz
def Tryz.lays105_ren:Go.Shelf.Ren:=⟨fun|105=>219|212=>269|99=>270|165=>271|166=>218|170=>272|169=>220|263=>292|264=>293|206=>254|240=>267|241=>294|276=>287|277=>307|n=>n,fun|9=>9|3=>3|4=>4|20=>20|0=>0|46=>136|109=>233|5=>5|72=>196|76=>201|51=>133|146=>259|53=>148|148=>261|70=>193|37=>194|75=>198|127=>237|164=>252|80=>204|n=>n,fun|n=>n⟩
theorem Tryz.lays105:Go.Proofs.Lays.n105 Tryz.prog Tryz.lays105_ren:={
 mixed:=by kernel_rfl
 f99:=func270.trans (congrArg some (by kernel_rfl))
 f105:=func219.trans (congrArg some (by kernel_rfl))
 f165:=func271.trans (congrArg some (by kernel_rfl))
 f166:=func218.trans (congrArg some (by kernel_rfl))
 f169:=func220.trans (congrArg some (by kernel_rfl))
 f170:=func272.trans (congrArg some (by kernel_rfl))
 f206:=func254.trans (congrArg some (by kernel_rfl))
 f212:=func269.trans (congrArg some (by kernel_rfl))
 f240:=func267.trans (congrArg some (by kernel_rfl))
 f241:=func294.trans (congrArg some (by kernel_rfl))
 f263:=func292.trans (congrArg some (by kernel_rfl))
 f264:=func293.trans (congrArg some (by kernel_rfl))
 f276:=func287.trans (congrArg some (by kernel_rfl))
 f277:=func307.trans (congrArg some (by kernel_rfl))
 t0:=underlying0
 a0:=isAgg0
 z0:=sizeOf0
 v0:=zeroValue0
 t3:=underlying3
 a3:=isAgg3
 z3:=sizeOf3
 v3:=zeroValue3
 t4:=underlying4
 a4:=isAgg4
 z4:=sizeOf4
 v4:=zeroValue4
 t5:=underlying5
 a5:=isAgg5
 z5:=sizeOf5
 v5:=zeroValue5
 t9:=underlying9
 a9:=isAgg9
 z9:=sizeOf9
 v9:=zeroValue9
 t20:=underlying20
 a20:=isAgg20
 z20:=sizeOf20
 v20:=zeroValue20
 t37:=underlying194
 a37:=isAgg194
 z37:=sizeOf194
 v37:=zeroValue194
 t46:=underlying136
 a46:=isAgg136
 z46:=sizeOf136
 v46:=zeroValue136
 t51:=underlying133
 a51:=isAgg133
 z51:=sizeOf133
 v51:=zeroValue133
 t53:=underlying148
 a53:=isAgg148
 z53:=sizeOf148
 v53:=zeroValue148
 t70:=underlying193
 a70:=isAgg193
 z70:=sizeOf193
 v70:=zeroValue193
 t72:=underlying196
 a72:=isAgg196
 z72:=sizeOf196
 v72:=zeroValue196
 t75:=underlying198
 a75:=isAgg198
 z75:=sizeOf198
 v75:=zeroValue198
 t76:=underlying201
 a76:=isAgg201
 z76:=sizeOf201
 v76:=zeroValue201
 t109:=underlying233
 a109:=isAgg233
 z109:=sizeOf233
 v109:=zeroValue233
 t127:=underlying237
 a127:=isAgg237
 z127:=sizeOf237
 v127:=zeroValue237
 t146:=underlying259
 a146:=isAgg259
 z146:=sizeOf259
 v146:=zeroValue259
 t148:=underlying261
 a148:=isAgg261
 z148:=sizeOf261
 v148:=zeroValue261
 t164:=underlying252
 a164:=isAgg252
 z164:=sizeOf252
 v164:=zeroValue252 }
theorem Tryz.Builder_Extra_105:Builder.Extra Tryz.prog Tryz.lays105_ren:={
 sizeBuilder:=by kernel_rfl
 liesBuilder:=by kernel_rfl
 t5:=underlying5
 a5:=isAgg5
 z5:=sizeOf5
 v5:=zeroValue5
 infoByte:=by kernel_rfl
 cellsByte:=by kernel_rfl
 sizeByte:=by kernel_rfl
 neB5:=by decide }
open Go.RowKit Go.Lib in
theorem Tryz.strings_Repeat (s:ByteArray) (c:Nat) (w:World) (hc:c<=9223372036854775807) (hlen:s.size*c<=140737488355328):
 Calls Tryz.prog 219 #[.string s, .int .i64 c] w fun e w'=>e= .returned (.string ⟨(Lib.repeatL s.data.toList c).toArray⟩)/\Below w.heap.size w w':=Any.strings_Repeat Tryz.lays105 Tryz.Builder_Extra_105 s c w hc hlen
def Tryz.lays194_ren:Go.Shelf.Ren:=⟨fun|194=>172|n=>n,fun|31=>25|9=>9|3=>3|4=>4|0=>0|n=>n,fun|n=>n⟩
theorem Tryz.lays194:Go.Proofs.Lays.n194 Tryz.prog Tryz.lays194_ren:={
 mixed:=by kernel_rfl
 f194:=func172.trans (congrArg some (by kernel_rfl))
 t0:=underlying0
 a0:=isAgg0
 z0:=sizeOf0
 v0:=zeroValue0
 t3:=underlying3
 a3:=isAgg3
 z3:=sizeOf3
 v3:=zeroValue3
 t4:=underlying4
 a4:=isAgg4
 z4:=sizeOf4
 v4:=zeroValue4
 t9:=underlying9
 a9:=isAgg9
 z9:=sizeOf9
 v9:=zeroValue9
 t31:=underlying25
 a31:=isAgg25
 z31:=sizeOf25
 v31:=zeroValue25 }
open Go.RowKit Go.Lib Go.Sort in
theorem Tryz.slices_Compact_string (blk off cap:Nat) (zs:List (List UInt8)) (w:World) (hH:Holds encStr w blk off zs.toArray) (hsz:zs.length<=9223372036854775807) (hcap:zs.length<=cap):
 Calls Tryz.prog 172 #[.slice (some ⟨blk,off,none⟩) zs.length cap] w fun e w'=>e= .returned (.slice (some ⟨blk,off,none⟩) (Lib.compact zs).length cap)/\ ∃q,w'=putRow encStr (Sort.ahead w q) blk off (Lib.compact zs++List.replicate (zs.length-(Lib.compact zs).length) []).toArray:=Any.slices_Compact_string Tryz.lays194 blk off cap zs w hH hsz hcap
open Go.RowKit Go.Lib Go.Sort in
theorem Tryz.slices_Compact_string_empty (a:Option Addr) (cap:Nat) (w:World):
 Calls Tryz.prog 172 #[.slice a 0 cap] w fun e w'=>e= .returned (.slice a 0 cap)/\w'=w:=Any.slices_Compact_string_empty Tryz.lays194 a cap w
open Go.RowKit Go.Sort in
theorem Tryz.slices_Sort_string_none (p:Option Addr) (cap:Nat) (w:World):
 Calls Tryz.prog 71 #[.slice p 0 cap] w fun e w'=>e= .returned (.tuple #[])/\w'=w:=Any.slices_Sort_string_none Tryz.lays190 p cap w
def Tryz.laysSlE041_f120_ren:Go.Shelf.Ren:=⟨fun|41=>120|n=>n,fun|22=>34|23=>133|4=>4|n=>n,fun|n=>n⟩
theorem Tryz.laysSlE041_f120:Go.Proofs.SlLaysE0.n41 Tryz.prog Tryz.laysSlE041_f120_ren:={
 mixed:=by kernel_rfl
 f41:=⟨Tryz.f120.name,by decide,func120.trans (congrArg some (by kernel_rfl))⟩
 t4:=underlying4
 a4:=isAgg4
 z4:=sizeOf4
 v4:=zeroValue4
 t22:=underlying34
 a22:=isAgg34
 z22:=sizeOf34
 v22:=zeroValue34 }
open Go.RowKit Go.Lib in
theorem Tryz.slices_Clone (i0:TypeInfo) (z:Value) (size bytes:Nat) (hi:Tryz.prog.info? 133=some i0) (hz0:i0.zero=some z) (hz1:i0.size=size) (hz2:i0.bytes=bytes) (hzs:z.cells.size=size) (hsz:0<size) (z23:∀w,(Go.sizeOf 133).run Tryz.prog w= .ok size w) (b off n c:Nat) (news:List Value) (w:World) (hl:news.length=n*size) (hn:n<=maxLen) (hbig:n*bytes<=140737488355328) (hc:∀j u,news[j]? =some u->w.cell? ⟨b,off+j,none⟩=some u) (h1:∀u∈news,u.oneCell'=true):
 Calls Tryz.prog 120 #[.slice (some ⟨b,off,none⟩) n c] w fun e w'=>∃v',e= .returned v'/\w'.ownsRow w.heap.size 133 size v' n news/\v'≠ .slice none 0 0/\Below w.heap.size w w':=AnyE.slices_Clone Tryz.laysSlE041_f120 i0 z size bytes hi hz0 hz1 hz2 hzs hsz z23 b off n c news w hl hn hbig hc h1
end Go.Proofs
