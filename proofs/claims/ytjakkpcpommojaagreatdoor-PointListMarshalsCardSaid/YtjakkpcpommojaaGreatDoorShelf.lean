/- The shelf's contracts at this seat: those that its texts name. No condition but what each says. -/
import Derived.Shelf.Strings.Builder1
import Derived.Shelf.Strings.Builder2
import Derived.Shelf.Strings.OnBuilder
import Derived.Shelf.Small.Utf8
import Derived.Shelf.Small.Strs
import Derived.Shelf.Strings.BuilderF
import Derived.Shelf.Strings.BuilderK
import Derived.Shelf.Strings.BuilderRune
import Derived.Shelf.Utf8.AppendRune
import Derived.Shelf.Utf8.AppendRunePlain
import Derived.Shelf.Utf8.RuneCount
import Derived.Shelf.Strings.Builder2Cap
import Derived.Shelf.Strconv.Itoa0
import Derived.Shelf.Strconv.Itoa1
import Derived.Shelf.LaysM
import Derived.Shelf.Strconv.Itoa2
import Derived.Shelf.Strconv.Itoa3
import Derived.Shelf.Strconv.Clone
import Derived.Shelf.Strconv.SyntaxError
import Derived.Shelf.Strconv.Lower
import Derived.Shelf.Strconv.RangeError
import Derived.Shelf.LaysC
import Derived.Shelf.Strconv.ToErrorRange
import Derived.Ground.MpProg
import Derived.Shelf.Pu.ParseUintPublic10
import Derived.Shelf.Pu.ErrVarParseUint
import Derived.Shelf.Strings.Search1
import Derived.Shelf.Strings.Search2
import Derived.Shelf.Strings.Search3
import Derived.Shelf.Strings.Count
import Derived.Shelf.Strings.Shaped
import Derived.Shelf.Strings.Split
import Derived.Shelf.Strings.SplitShaped
import Derived.Shelf.Unicode.Decode
import Derived.Shelf.Strings.Runes
import Derived.Shelf.Strings.RuneCount
import Derived.Shelf.Strings.Explode
import Derived.Shelf.Unicode.DecodeSlow
import Derived.Shelf.Unicode.DecodeAny
import Derived.Shelf.Strings.BuilderCap
import Derived.Shelf.Unicode.ValidAny
import Derived.Shelf.SlicesE.Reverse
import Derived.Ground.SlgnProg
import Derived.Shelf.Spec.SlicesGrow
import Derived.Ground.Names8Prog
import Derived.Test.YtjakkpcpommojaaGreatDoorProg
namespace Go.Proofs
open Go.Shelf
def Tryz.lays169_ren:Go.Shelf.Ren:=⟨fun|169=>202|n=>n,fun|70=>254|9=>9|0=>0|72=>256|37=>29|127=>282|3=>3|5=>5|n=>n,fun|n=>n⟩
theorem Tryz.lays169:Go.Proofs.Lays.n169 Tryz.prog Tryz.lays169_ren:={
  mixed:=by kernel_rfl
  f169:=Tryz.func202.trans (congrArg some (by kernel_rfl))
  t0:=Tryz.underlying0
  a0:=Tryz.isAgg0
  z0:=Tryz.sizeOf0
  v0:=Tryz.zeroValue0
  t3:=Tryz.underlying3
  a3:=Tryz.isAgg3
  z3:=Tryz.sizeOf3
  v3:=Tryz.zeroValue3
  t9:=Tryz.underlying9
  a9:=Tryz.isAgg9
  z9:=Tryz.sizeOf9
  v9:=Tryz.zeroValue9
  t37:=Tryz.underlying29
  a37:=Tryz.isAgg29
  z37:=Tryz.sizeOf29
  v37:=Tryz.zeroValue29
  t70:=Tryz.underlying254
  a70:=Tryz.isAgg254
  z70:=Tryz.sizeOf254
  v70:=Tryz.zeroValue254
  t72:=Tryz.underlying256
  a72:=Tryz.isAgg256
  z72:=Tryz.sizeOf256
  v72:=Tryz.zeroValue256
  t127:=Tryz.underlying282
  a127:=Tryz.isAgg282
  z127:=Tryz.sizeOf282
  v127:=Tryz.zeroValue282}
theorem Tryz.Builder_Extra_169:Builder.Extra Tryz.prog Tryz.lays169_ren:={
  sizeBuilder:=by kernel_rfl
  liesBuilder:=by kernel_rfl
  t5:=Tryz.underlying5
  a5:=Tryz.isAgg5
  z5:=Tryz.sizeOf5
  v5:=Tryz.zeroValue5
  infoByte:=by kernel_rfl
  cellsByte:=by kernel_rfl
  sizeByte:=by kernel_rfl
  neB5:=by decide}
def Tryz.lays156_ren:Go.Shelf.Ren:=⟨fun|156=>206|165=>228|166=>229|169=>202|240=>225|241=>247|276=>243|277=>255|n=>n,fun|31=>219|9=>9|3=>3|4=>4|0=>0|20=>20|72=>256|76=>260|70=>254|37=>29|75=>222|127=>282|164=>296|5=>5|80=>262|n=>n,fun|n=>n⟩
theorem Tryz.lays156:Go.Proofs.Lays.n156 Tryz.prog Tryz.lays156_ren:={
  mixed:=by kernel_rfl
  f156:=Tryz.func206.trans (congrArg some (by kernel_rfl))
  f165:=Tryz.func228.trans (congrArg some (by kernel_rfl))
  f166:=Tryz.func229.trans (congrArg some (by kernel_rfl))
  f169:=Tryz.func202.trans (congrArg some (by kernel_rfl))
  f240:=Tryz.func225.trans (congrArg some (by kernel_rfl))
  f241:=Tryz.func247.trans (congrArg some (by kernel_rfl))
  f276:=Tryz.func243.trans (congrArg some (by kernel_rfl))
  f277:=Tryz.func255.trans (congrArg some (by kernel_rfl))
  t0:=Tryz.underlying0
  a0:=Tryz.isAgg0
  z0:=Tryz.sizeOf0
  v0:=Tryz.zeroValue0
  t3:=Tryz.underlying3
  a3:=Tryz.isAgg3
  z3:=Tryz.sizeOf3
  v3:=Tryz.zeroValue3
  t4:=Tryz.underlying4
  a4:=Tryz.isAgg4
  z4:=Tryz.sizeOf4
  v4:=Tryz.zeroValue4
  t9:=Tryz.underlying9
  a9:=Tryz.isAgg9
  z9:=Tryz.sizeOf9
  v9:=Tryz.zeroValue9
  t20:=Tryz.underlying20
  a20:=Tryz.isAgg20
  z20:=Tryz.sizeOf20
  v20:=Tryz.zeroValue20
  t31:=Tryz.underlying219
  a31:=Tryz.isAgg219
  z31:=Tryz.sizeOf219
  v31:=Tryz.zeroValue219
  t37:=Tryz.underlying29
  a37:=Tryz.isAgg29
  z37:=Tryz.sizeOf29
  v37:=Tryz.zeroValue29
  t70:=Tryz.underlying254
  a70:=Tryz.isAgg254
  z70:=Tryz.sizeOf254
  v70:=Tryz.zeroValue254
  t72:=Tryz.underlying256
  a72:=Tryz.isAgg256
  z72:=Tryz.sizeOf256
  v72:=Tryz.zeroValue256
  t75:=Tryz.underlying222
  a75:=Tryz.isAgg222
  z75:=Tryz.sizeOf222
  v75:=Tryz.zeroValue222
  t76:=Tryz.underlying260
  a76:=Tryz.isAgg260
  z76:=Tryz.sizeOf260
  v76:=Tryz.zeroValue260
  t127:=Tryz.underlying282
  a127:=Tryz.isAgg282
  z127:=Tryz.sizeOf282
  v127:=Tryz.zeroValue282
  t164:=Tryz.underlying296
  a164:=Tryz.isAgg296
  z164:=Tryz.sizeOf296
  v164:=Tryz.zeroValue296}
theorem Tryz.Builder_Extra_156:Builder.Extra Tryz.prog Tryz.lays156_ren:={
  sizeBuilder:=by kernel_rfl
  liesBuilder:=by kernel_rfl
  t5:=Tryz.underlying5
  a5:=Tryz.isAgg5
  z5:=Tryz.sizeOf5
  v5:=Tryz.zeroValue5
  infoByte:=by kernel_rfl
  cellsByte:=by kernel_rfl
  sizeByte:=by kernel_rfl
  neB5:=by decide}
open Go.RowKit in
theorem Tryz.strings_Join (bk o c:Nat) (xs:List ByteArray) (sep:ByteArray) (w:World) (hcells:∀(j:Nat) x,xs[j]?=some x→w.cell? ⟨bk,o+j,none⟩=some (.string x)) (hbk:bk<w.heap.size) (hN:xs.length≤140737488355328) (hcap:xs.length≤c) (hlen:(Lib.join (xs.map (·.data.toList)) sep.data.toList).length≤140737488355328):
    Calls Tryz.prog 206 #[.slice (some ⟨bk,o,none⟩) xs.length c,.string sep] w fun e w'=>e= .returned (.string ⟨(Lib.join (xs.map (·.data.toList)) sep.data.toList).toArray⟩)∧Below w.heap.size w w':=Any.strings_Join Tryz.lays156 Tryz.Builder_Extra_156 bk o c xs sep w hcells hbk hN hcap hlen
def Tryz.lays119_ren:Go.Shelf.Ren:=⟨fun|119=>181|n=>n,fun|21=>21|4=>4|n=>n,fun|n=>n⟩
theorem Tryz.lays119:Go.Proofs.Lays.n119 Tryz.prog Tryz.lays119_ren:={
  mixed:=by kernel_rfl
  f119:=Tryz.func181.trans (congrArg some (by kernel_rfl))
  t4:=Tryz.underlying4
  a4:=Tryz.isAgg4
  z4:=Tryz.sizeOf4
  v4:=Tryz.zeroValue4
  t21:=Tryz.underlying21
  a21:=Tryz.isAgg21
  z21:=Tryz.sizeOf21
  v21:=Tryz.zeroValue21}
theorem Tryz.utf8_ValidRune (r:Int) (w:World):
    Calls Tryz.prog 181 #[.int .i32 r] w fun e w'=>e= .returned (.bool (Lib.validRune r))∧w'=w:=Any.utf8_ValidRune Tryz.lays119 r w
def Tryz.lays137_ren:Go.Shelf.Ren:=⟨fun|137=>221|217=>242|266=>253|n=>n,fun|9=>9|5=>5|3=>3|n=>n,fun|n=>n⟩
theorem Tryz.lays137:Go.Proofs.Lays.n137 Tryz.prog Tryz.lays137_ren:={
  mixed:=by kernel_rfl
  f137:=Tryz.func221.trans (congrArg some (by kernel_rfl))
  f217:=Tryz.func242.trans (congrArg some (by kernel_rfl))
  f266:=Tryz.func253.trans (congrArg some (by kernel_rfl))
  t3:=Tryz.underlying3
  a3:=Tryz.isAgg3
  z3:=Tryz.sizeOf3
  v3:=Tryz.zeroValue3
  t5:=Tryz.underlying5
  a5:=Tryz.isAgg5
  z5:=Tryz.sizeOf5
  v5:=Tryz.zeroValue5
  t9:=Tryz.underlying9
  a9:=Tryz.isAgg9
  z9:=Tryz.sizeOf9
  v9:=Tryz.zeroValue9}
open Go.RowKit in
theorem Tryz.strings_IndexByte (s:ByteArray) (c:Int) (w:World):
    Calls Tryz.prog 221 #[.string s,.int .u8 c] w fun e w'=>e= .returned (.int .i64 (Lib.indexByte s.data.toList c.toNat.toUInt8))∧w'=w:=Any.strings_IndexByte Tryz.lays137 s c w
open Go.RowKit in
theorem Tryz.Builder_String_any_k (B b:Nat) (l:List UInt8) (w:World) (h:Lib.IsBuilderF 256 5 B b (Lib.byteCells l) w) (hBw:B≤w.heap.size):
    Calls Tryz.prog 202 #[.pointer (some ⟨b,0,none⟩)] w fun e w'=>e= .returned (.string ⟨l.toArray⟩)∧(Lib.IsBuilderF 256 5 B b (Lib.byteCells l) w'∧Below B w w'∧Lib.OthersKept 5 (some b) w w'):=Any.Builder_String_any_k Tryz.lays169 Tryz.Builder_Extra_169 B b l w h hBw
def Tryz.lays242_ren:Go.Shelf.Ren:=⟨fun|242=>226|278=>244|n=>n,fun|37=>29|21=>21|51=>174|4=>4|5=>5|46=>109|n=>n,fun|n=>n⟩
theorem Tryz.lays242:Go.Proofs.Lays.n242 Tryz.prog Tryz.lays242_ren:={
  mixed:=by kernel_rfl
  f242:=Tryz.func226.trans (congrArg some (by kernel_rfl))
  f278:=Tryz.func244.trans (congrArg some (by kernel_rfl))
  t4:=Tryz.underlying4
  a4:=Tryz.isAgg4
  z4:=Tryz.sizeOf4
  v4:=Tryz.zeroValue4
  t5:=Tryz.underlying5
  a5:=Tryz.isAgg5
  z5:=Tryz.sizeOf5
  v5:=Tryz.zeroValue5
  t21:=Tryz.underlying21
  a21:=Tryz.isAgg21
  z21:=Tryz.sizeOf21
  v21:=Tryz.zeroValue21
  t37:=Tryz.underlying29
  a37:=Tryz.isAgg29
  z37:=Tryz.sizeOf29
  v37:=Tryz.zeroValue29
  t46:=Tryz.underlying109
  a46:=Tryz.isAgg109
  z46:=Tryz.sizeOf109
  v46:=Tryz.zeroValue109
  t51:=Tryz.underlying174
  a51:=Tryz.isAgg174
  z51:=Tryz.sizeOf174
  v51:=Tryz.zeroValue174}
open Go.RowKit in
theorem Tryz.utf8_AppendRune_plain (B:Nat) (v:Value) (n:Nat) (xs:List Value) (r:Int) (hr0: -2147483648≤r) (hr1:r≤2147483647) (w:World) (hown:w.ownsRow B 5 1 v n xs) (hlen:n+4≤140737488355328) (hBw:B≤w.heap.size):
    Calls Tryz.prog 226 #[v,.int .i32 r] w fun e w'=>∃v',e= .returned v'∧w'.ownsRow B 5 1 v' (n+(Lib.runeCells r).length) (xs++Lib.runeCells r)∧∃o,(w.alloc o).grownBy w' v.ownBlock:=Any.utf8_AppendRune_plain Tryz.lays242 (by kernel_rfl) B v n xs r hr0 hr1 w hown hlen hBw
def Tryz.lays195_ren:Go.Shelf.Ren:=⟨fun|195=>230|n=>n,fun|9=>9|3=>3|0=>0|4=>4|n=>n,fun|n=>n⟩
theorem Tryz.lays195:Go.Proofs.Lays.n195 Tryz.prog Tryz.lays195_ren:={
  mixed:=by kernel_rfl
  f195:=Tryz.func230.trans (congrArg some (by kernel_rfl))
  t0:=Tryz.underlying0
  a0:=Tryz.isAgg0
  z0:=Tryz.sizeOf0
  v0:=Tryz.zeroValue0
  t3:=Tryz.underlying3
  a3:=Tryz.isAgg3
  z3:=Tryz.sizeOf3
  v3:=Tryz.zeroValue3
  t4:=Tryz.underlying4
  a4:=Tryz.isAgg4
  z4:=Tryz.sizeOf4
  v4:=Tryz.zeroValue4
  t9:=Tryz.underlying9
  a9:=Tryz.isAgg9
  z9:=Tryz.sizeOf9
  v9:=Tryz.zeroValue9}
open Go.RowKit in
theorem Tryz.utf8_RuneCountInString (s:ByteArray) (w:World) (hs:s.size<9223372036854775807):
    Calls Tryz.prog 230 #[.string s] w fun e w'=>e= .returned (.int .i64 (Lib.runeCount s))∧∃pos,w'=w.iter s pos:=Any.utf8_RuneCountInString Tryz.lays195 s w hs
def Tryz.lays283_ren:Go.Shelf.Ren:=⟨fun|283=>217|n=>n,fun|3=>3|9=>9|4=>4|n=>n,fun|n=>n⟩
theorem Tryz.lays283:Go.Proofs.Lays.n283 Tryz.prog Tryz.lays283_ren:={
  mixed:=by kernel_rfl
  f283:=Tryz.func217.trans (congrArg some (by kernel_rfl))
  t3:=Tryz.underlying3
  a3:=Tryz.isAgg3
  z3:=Tryz.sizeOf3
  v3:=Tryz.zeroValue3
  t4:=Tryz.underlying4
  a4:=Tryz.isAgg4
  z4:=Tryz.sizeOf4
  v4:=Tryz.zeroValue4
  t9:=Tryz.underlying9
  a9:=Tryz.isAgg9
  z9:=Tryz.sizeOf9
  v9:=Tryz.zeroValue9}
open Go.Lib in
theorem Tryz.internal_strconv_small (i:Nat) (h:i<100) (w:World):
    Calls Tryz.prog 217 #[.int .i64 i] w fun e w'=>e= .returned (.string ⟨(Lib.decDigits i).toArray⟩)∧w'=w:=Any.internal_strconv_small Tryz.lays283 i h w
def Tryz.laysM284_ren:Go.Shelf.Ren:=⟨fun|284=>218|129=>238|317=>237|318=>239|n=>n,fun|53=>168|3=>3|212=>293|0=>0|4=>4|46=>109|5=>5|9=>9|n=>n,fun|17=>4|n=>n⟩
theorem Tryz.laysM284:Go.Proofs.LaysM.n284 Tryz.prog Tryz.laysM284_ren:={
  mixed:=by kernel_rfl
  f129:=Tryz.func238.trans (congrArg some (by kernel_rfl))
  f284:=Tryz.func218.trans (congrArg some (by kernel_rfl))
  f317:=Tryz.func237.trans (congrArg some (by kernel_rfl))
  f318:=Tryz.func239.trans (congrArg some (by kernel_rfl))
  t0:=Tryz.underlying0
  a0:=Tryz.isAgg0
  z0:=Tryz.sizeOf0
  v0:=Tryz.zeroValue0
  t3:=Tryz.underlying3
  a3:=Tryz.isAgg3
  z3:=Tryz.sizeOf3
  v3:=Tryz.zeroValue3
  t4:=Tryz.underlying4
  a4:=Tryz.isAgg4
  z4:=Tryz.sizeOf4
  v4:=Tryz.zeroValue4
  t5:=Tryz.underlying5
  a5:=Tryz.isAgg5
  z5:=Tryz.sizeOf5
  v5:=Tryz.zeroValue5
  t9:=Tryz.underlying9
  a9:=Tryz.isAgg9
  z9:=Tryz.sizeOf9
  v9:=Tryz.zeroValue9
  t46:=Tryz.underlying109
  a46:=Tryz.isAgg109
  z46:=Tryz.sizeOf109
  v46:=Tryz.zeroValue109
  t53:=Tryz.underlying168
  a53:=Tryz.isAgg168
  z53:=Tryz.sizeOf168
  v53:=Tryz.zeroValue168
  t212:=Tryz.underlying293
  a212:=Tryz.isAgg293
  z212:=Tryz.sizeOf293
  v212:=Tryz.zeroValue293
  g17:=by kernel_rfl
  i0:=by kernel_rfl
  i3:=by kernel_rfl
  i4:=by kernel_rfl
  i5:=by kernel_rfl
  i9:=by kernel_rfl
  i46:=by kernel_rfl
  i53:=by kernel_rfl
  i212:=by kernel_rfl
  m17:=by kernel_rfl}
open Go.Lib in
theorem Tryz.internal_strconv_numDigits (u:Nat) (h1:1≤u) (h2:u<18446744073709551616) (w:World) (htab:Lib.TabIs Tryz.prog w "internal/strconv.uint64pow10" .u64 Lib.pow10Tab):
    Calls Tryz.prog 218 #[.int .u64 u] w fun e w'=>e= .returned (.int .i64 (Lib.nDigits u))∧w'=w:=Any.internal_strconv_numDigits Tryz.laysM284 u h1 h2 w htab
def Tryz.lays285_ren:Go.Shelf.Ren:=⟨fun|285=>219|n=>n,fun|37=>29|53=>168|3=>3|4=>4|51=>174|9=>9|5=>5|0=>0|n=>n,fun|n=>n⟩
theorem Tryz.lays285:Go.Proofs.Lays.n285 Tryz.prog Tryz.lays285_ren:={
  mixed:=by kernel_rfl
  f285:=Tryz.func219.trans (congrArg some (by kernel_rfl))
  t0:=Tryz.underlying0
  a0:=Tryz.isAgg0
  z0:=Tryz.sizeOf0
  v0:=Tryz.zeroValue0
  t3:=Tryz.underlying3
  a3:=Tryz.isAgg3
  z3:=Tryz.sizeOf3
  v3:=Tryz.zeroValue3
  t4:=Tryz.underlying4
  a4:=Tryz.isAgg4
  z4:=Tryz.sizeOf4
  v4:=Tryz.zeroValue4
  t5:=Tryz.underlying5
  a5:=Tryz.isAgg5
  z5:=Tryz.sizeOf5
  v5:=Tryz.zeroValue5
  t9:=Tryz.underlying9
  a9:=Tryz.isAgg9
  z9:=Tryz.sizeOf9
  v9:=Tryz.zeroValue9
  t37:=Tryz.underlying29
  a37:=Tryz.isAgg29
  z37:=Tryz.sizeOf29
  v37:=Tryz.zeroValue29
  t51:=Tryz.underlying174
  a51:=Tryz.isAgg174
  z51:=Tryz.sizeOf174
  v51:=Tryz.zeroValue174
  t53:=Tryz.underlying168
  a53:=Tryz.isAgg168
  z53:=Tryz.sizeOf168
  v53:=Tryz.zeroValue168}
open Go.RowKit Go.Sort Go.Lib in
theorem Tryz.internal_strconv_formatBase10 (blk off cap:Nat) (u:Nat) (d:Array UInt8) (w:World) (hH:Holds (fun(b:UInt8)=>Value.int .u8 (b.toNat:Int)) w blk off d) (hu:u<10^d.size) (hu64:u<18446744073709551616) (hsz:d.size<4611686018427387904):
    Calls Tryz.prog 219 #[.slice (some ⟨blk,off,none⟩) d.size cap,.int .u64 u] w fun e w'=>
      e= .returned (.tuple #[])∧∃(n v':Nat) (dk:Array UInt8),w'=(putRow (fun(b:UInt8)=>Value.int .u8 (b.toNat:Int)) w blk off dk).drewN n∧FmtInv d.size u 0 v' dk:=Any.internal_strconv_formatBase10 Tryz.lays285 blk off cap u d w hH hu hu64 hsz
def Tryz.laysPu14_ren:Go.Shelf.Ren:=⟨fun|14=>172|16=>194|17=>195|19=>211|20=>212|21=>213|22=>214|23=>215|24=>216|25=>234|27=>236|26=>235|28=>250|29=>257|30=>217|31=>218|32=>219|33=>220|35=>238|34=>237|36=>239|37=>240|38=>241|39=>251|40=>252|n=>n,fun|9=>9|3=>3|22=>168|24=>222|25=>223|4=>4|34=>269|5=>5|36=>109|37=>29|0=>0|39=>271|21=>21|44=>290|47=>282|50=>300|48=>298|2=>2|52=>275|55=>278|59=>293|60=>174|20=>20|61=>294|65=>306|66=>307|67=>262|n=>n,fun|0=>2|1=>3|2=>4|3=>6|4=>7|n=>n⟩
theorem Tryz.laysPu14:Go.Proofs.LaysPu.n14 Tryz.prog Tryz.laysPu14_ren:={
  mixed:=by kernel_rfl
  f14:=Tryz.func172.trans (congrArg some (by kernel_rfl))
  f16:=Tryz.func194.trans (congrArg some (by kernel_rfl))
  f17:=Tryz.func195.trans (congrArg some (by kernel_rfl))
  f19:=Tryz.func211.trans (congrArg some (by kernel_rfl))
  f20:=Tryz.func212.trans (congrArg some (by kernel_rfl))
  f21:=Tryz.func213.trans (congrArg some (by kernel_rfl))
  f22:=Tryz.func214.trans (congrArg some (by kernel_rfl))
  f23:=Tryz.func215.trans (congrArg some (by kernel_rfl))
  f24:=Tryz.func216.trans (congrArg some (by kernel_rfl))
  f25:=Tryz.func234.trans (congrArg some (by kernel_rfl))
  f26:=Tryz.func235.trans (congrArg some (by kernel_rfl))
  f27:=Tryz.func236.trans (congrArg some (by kernel_rfl))
  f28:=Tryz.func250.trans (congrArg some (by kernel_rfl))
  f29:=Tryz.func257.trans (congrArg some (by kernel_rfl))
  f30:=Tryz.func217.trans (congrArg some (by kernel_rfl))
  f31:=Tryz.func218.trans (congrArg some (by kernel_rfl))
  f32:=Tryz.func219.trans (congrArg some (by kernel_rfl))
  f33:=Tryz.func220.trans (congrArg some (by kernel_rfl))
  f34:=Tryz.func237.trans (congrArg some (by kernel_rfl))
  f35:=Tryz.func238.trans (congrArg some (by kernel_rfl))
  f36:=Tryz.func239.trans (congrArg some (by kernel_rfl))
  f37:=Tryz.func240.trans (congrArg some (by kernel_rfl))
  f38:=Tryz.func241.trans (congrArg some (by kernel_rfl))
  f39:=Tryz.func251.trans (congrArg some (by kernel_rfl))
  f40:=Tryz.func252.trans (congrArg some (by kernel_rfl))
  t0:=Tryz.underlying0
  a0:=Tryz.isAgg0
  z0:=Tryz.sizeOf0
  v0:=Tryz.zeroValue0
  i0:=by kernel_rfl
  t2:=Tryz.underlying2
  a2:=Tryz.isAgg2
  z2:=Tryz.sizeOf2
  v2:=Tryz.zeroValue2
  i2:=by kernel_rfl
  t3:=Tryz.underlying3
  a3:=Tryz.isAgg3
  z3:=Tryz.sizeOf3
  v3:=Tryz.zeroValue3
  i3:=by kernel_rfl
  t4:=Tryz.underlying4
  a4:=Tryz.isAgg4
  z4:=Tryz.sizeOf4
  v4:=Tryz.zeroValue4
  i4:=by kernel_rfl
  t5:=Tryz.underlying5
  a5:=Tryz.isAgg5
  z5:=Tryz.sizeOf5
  v5:=Tryz.zeroValue5
  i5:=by kernel_rfl
  t9:=Tryz.underlying9
  a9:=Tryz.isAgg9
  z9:=Tryz.sizeOf9
  v9:=Tryz.zeroValue9
  i9:=by kernel_rfl
  t20:=Tryz.underlying20
  a20:=Tryz.isAgg20
  z20:=Tryz.sizeOf20
  v20:=Tryz.zeroValue20
  i20:=by kernel_rfl
  t21:=Tryz.underlying21
  a21:=Tryz.isAgg21
  z21:=Tryz.sizeOf21
  v21:=Tryz.zeroValue21
  i21:=by kernel_rfl
  t22:=Tryz.underlying168
  a22:=Tryz.isAgg168
  z22:=Tryz.sizeOf168
  v22:=Tryz.zeroValue168
  i22:=by kernel_rfl
  t24:=Tryz.underlying222
  a24:=Tryz.isAgg222
  z24:=Tryz.sizeOf222
  v24:=Tryz.zeroValue222
  i24:=by kernel_rfl
  t25:=Tryz.underlying223
  a25:=Tryz.isAgg223
  z25:=Tryz.sizeOf223
  v25:=Tryz.zeroValue223
  i25:=by kernel_rfl
  t34:=Tryz.underlying269
  a34:=Tryz.isAgg269
  z34:=Tryz.sizeOf269
  v34:=Tryz.zeroValue269
  i34:=by kernel_rfl
  c34:=by kernel_rfl
  t36:=Tryz.underlying109
  a36:=Tryz.isAgg109
  z36:=Tryz.sizeOf109
  v36:=Tryz.zeroValue109
  i36:=by kernel_rfl
  t37:=Tryz.underlying29
  a37:=Tryz.isAgg29
  z37:=Tryz.sizeOf29
  v37:=Tryz.zeroValue29
  i37:=by kernel_rfl
  t39:=Tryz.underlying271
  a39:=Tryz.isAgg271
  z39:=Tryz.sizeOf271
  v39:=Tryz.zeroValue271
  i39:=by kernel_rfl
  t44:=Tryz.underlying290
  a44:=Tryz.isAgg290
  z44:=Tryz.sizeOf290
  v44:=Tryz.zeroValue290
  i44:=by kernel_rfl
  t47:=Tryz.underlying282
  a47:=Tryz.isAgg282
  z47:=Tryz.sizeOf282
  v47:=Tryz.zeroValue282
  i47:=by kernel_rfl
  t48:=Tryz.underlying298
  a48:=Tryz.isAgg298
  z48:=Tryz.sizeOf298
  v48:=Tryz.zeroValue298
  i48:=by kernel_rfl
  t50:=Tryz.underlying300
  a50:=Tryz.isAgg300
  z50:=Tryz.sizeOf300
  v50:=Tryz.zeroValue300
  i50:=by kernel_rfl
  t52:=Tryz.underlying275
  a52:=Tryz.isAgg275
  z52:=Tryz.sizeOf275
  v52:=Tryz.zeroValue275
  i52:=by kernel_rfl
  t55:=Tryz.underlying278
  a55:=Tryz.isAgg278
  z55:=Tryz.sizeOf278
  v55:=Tryz.zeroValue278
  i55:=by kernel_rfl
  t59:=Tryz.underlying293
  a59:=Tryz.isAgg293
  z59:=Tryz.sizeOf293
  v59:=Tryz.zeroValue293
  i59:=by kernel_rfl
  t60:=Tryz.underlying174
  a60:=Tryz.isAgg174
  z60:=Tryz.sizeOf174
  v60:=Tryz.zeroValue174
  i60:=by kernel_rfl
  t61:=Tryz.underlying294
  a61:=Tryz.isAgg294
  z61:=Tryz.sizeOf294
  t65:=Tryz.underlying306
  a65:=Tryz.isAgg306
  z65:=Tryz.sizeOf306
  v65:=Tryz.zeroValue306
  i65:=by kernel_rfl
  t66:=Tryz.underlying307
  a66:=Tryz.isAgg307
  z66:=Tryz.sizeOf307
  v66:=Tryz.zeroValue307
  i66:=by kernel_rfl
  t67:=Tryz.underlying262
  a67:=Tryz.isAgg262
  z67:=Tryz.sizeOf262
  v67:=Tryz.zeroValue262
  i67:=by kernel_rfl
  g0:=by kernel_rfl
  m0:=by kernel_rfl
  g1:=by kernel_rfl
  m1:=by kernel_rfl
  g2:=by kernel_rfl
  m2:=by kernel_rfl
  g3:=by kernel_rfl
  m3:=by kernel_rfl
  g4:=by kernel_rfl
  m4:=by kernel_rfl}
open Go.RowKit in
theorem Tryz.strconv_ParseUint_10_at32_ok (s:ByteArray) (hmax:s.size≤9223372036854775806) (u:Nat) (h:Lib.parseUintB 32 s.data.toList= .ok u) (w:World):
    Calls Tryz.prog 172 #[.string s,.int .i64 10,.int .i64 32] w fun e w'=>e= .returned (.tuple #[.int .u64 u,.nilIface])∧(w'=w∨w'=Lib.bytesWorld w 5 s):=Any.strconv_ParseUint_10_at32_ok Tryz.laysPu14 s hmax u h w
open Go.RowKit in
theorem Tryz.strconv_ParseUint_10_at32_syntax (s:ByteArray) (hlim:s.size≤281474976710656) (h:Lib.parseUintB 32 s.data.toList=Lib.NumEnd.syntax) (ev:Value) (w:World) (hv:w.cell? ⟨2,0,none⟩=some ev) (hev:ev= .nilIface∨∃te pe,ev= .iface te pe):
    Calls Tryz.prog 172 #[.string s,.int .i64 10,.int .i64 32] w fun e w'=>∃N,e= .returned (.tuple #[.int .u64 0,.iface 271 (.pointer (some ⟨N,0,none⟩))])∧w.heap.size≤N∧w'.heap[N]?=some (.cells #[.string ⟨#[80,97,114,115,101,85,105,110,116]⟩,.string s,ev] 290 (0,0))∧Below w.heap.size w w':=Any.strconv_ParseUint_10_at32_syntax Tryz.laysPu14 s hlim h ev w hv hev
open Go.RowKit in
theorem Tryz.strconv_ParseUint_10_at32_range (s:ByteArray) (hlim:s.size≤281474976710656) (h:Lib.parseUintB 32 s.data.toList= .range) (ev:Value) (w:World) (hv:w.cell? ⟨3,0,none⟩=some ev) (hev:ev= .nilIface∨∃te pe,ev= .iface te pe):
    Calls Tryz.prog 172 #[.string s,.int .i64 10,.int .i64 32] w fun e w'=>∃N,e= .returned (.tuple #[.int .u64 4294967295,.iface 271 (.pointer (some ⟨N,0,none⟩))])∧w.heap.size≤N∧w'.heap[N]?=some (.cells #[.string ⟨#[80,97,114,115,101,85,105,110,116]⟩,.string s,ev] 290 (0,0))∧Below w.heap.size w w':=Any.strconv_ParseUint_10_at32_range Tryz.laysPu14 s hlim h ev w hv hev
def Tryz.lays146_ren:Go.Shelf.Ren:=⟨fun|146=>171|221=>193|268=>208|138=>209|143=>210|195=>230|197=>231|218=>232|219=>233|260=>248|217=>242|225=>223|224=>222|267=>249|266=>253|314=>256|n=>n,fun|9=>9|31=>219|3=>3|4=>4|0=>0|105=>286|21=>21|5=>5|46=>109|119=>249|139=>252|138=>251|146=>303|51=>174|n=>n,fun|1=>5|3=>0|4=>1|n=>n⟩
theorem Tryz.lays146:Go.Proofs.Lays.n146 Tryz.prog Tryz.lays146_ren:={
  mixed:=by kernel_rfl
  f138:=Tryz.func209.trans (congrArg some (by kernel_rfl))
  f143:=Tryz.func210.trans (congrArg some (by kernel_rfl))
  f146:=Tryz.func171.trans (congrArg some (by kernel_rfl))
  f195:=Tryz.func230.trans (congrArg some (by kernel_rfl))
  f197:=Tryz.func231.trans (congrArg some (by kernel_rfl))
  f217:=Tryz.func242.trans (congrArg some (by kernel_rfl))
  f218:=Tryz.func232.trans (congrArg some (by kernel_rfl))
  f219:=Tryz.func233.trans (congrArg some (by kernel_rfl))
  f221:=Tryz.func193.trans (congrArg some (by kernel_rfl))
  f224:=Tryz.func222.trans (congrArg some (by kernel_rfl))
  f225:=Tryz.func223.trans (congrArg some (by kernel_rfl))
  f260:=Tryz.func248.trans (congrArg some (by kernel_rfl))
  f266:=Tryz.func253.trans (congrArg some (by kernel_rfl))
  f267:=Tryz.func249.trans (congrArg some (by kernel_rfl))
  f268:=Tryz.func208.trans (congrArg some (by kernel_rfl))
  f314:=Tryz.func256.trans (congrArg some (by kernel_rfl))
  t0:=Tryz.underlying0
  a0:=Tryz.isAgg0
  z0:=Tryz.sizeOf0
  v0:=Tryz.zeroValue0
  t3:=Tryz.underlying3
  a3:=Tryz.isAgg3
  z3:=Tryz.sizeOf3
  v3:=Tryz.zeroValue3
  t4:=Tryz.underlying4
  a4:=Tryz.isAgg4
  z4:=Tryz.sizeOf4
  v4:=Tryz.zeroValue4
  t5:=Tryz.underlying5
  a5:=Tryz.isAgg5
  z5:=Tryz.sizeOf5
  v5:=Tryz.zeroValue5
  t9:=Tryz.underlying9
  a9:=Tryz.isAgg9
  z9:=Tryz.sizeOf9
  v9:=Tryz.zeroValue9
  t21:=Tryz.underlying21
  a21:=Tryz.isAgg21
  z21:=Tryz.sizeOf21
  v21:=Tryz.zeroValue21
  t31:=Tryz.underlying219
  a31:=Tryz.isAgg219
  z31:=Tryz.sizeOf219
  v31:=Tryz.zeroValue219
  t46:=Tryz.underlying109
  a46:=Tryz.isAgg109
  z46:=Tryz.sizeOf109
  v46:=Tryz.zeroValue109
  t51:=Tryz.underlying174
  a51:=Tryz.isAgg174
  z51:=Tryz.sizeOf174
  v51:=Tryz.zeroValue174
  t105:=Tryz.underlying286
  a105:=Tryz.isAgg286
  z105:=Tryz.sizeOf286
  v105:=Tryz.zeroValue286
  t119:=Tryz.underlying249
  a119:=Tryz.isAgg249
  z119:=Tryz.sizeOf249
  t138:=Tryz.underlying251
  a138:=Tryz.isAgg251
  z138:=Tryz.sizeOf251
  v138:=Tryz.zeroValue251
  t139:=Tryz.underlying252
  a139:=Tryz.isAgg252
  z139:=Tryz.sizeOf252
  v139:=Tryz.zeroValue252
  t146:=Tryz.underlying303
  a146:=Tryz.isAgg303
  z146:=Tryz.sizeOf303
  v146:=Tryz.zeroValue303
  g1:=by kernel_rfl
  g3:=by kernel_rfl
  g4:=by kernel_rfl}
open Go.RowKit Go.Lib in
theorem Tryz.strings_Split (s sep:ByteArray) (m:Int) (w:World) (hs:s.size<4294967281) (hm:w.cell? ⟨5,0,none⟩=some (.int .i64 m)) (h1:1≤sep.size):
    Calls Tryz.prog 171 #[.string s,.string sep] w fun e w'=>
      e= .returned (.slice (some ⟨w.heap.size,0,none⟩) (Lib.countB s sep+1) (Lib.countB s sep+1))∧w'=w.alloc (.cells ((Lib.splitB sep 0 (Lib.countB s sep) s).map Value.string).toArray 9):=Any.strings_Split Tryz.lays146 (by kernel_rfl) s sep m w hs hm h1
def Tryz.lays151_ren:Go.Shelf.Ren:=⟨fun|151=>178|152=>198|137=>221|119=>181|224=>222|225=>223|217=>242|266=>253|n=>n,fun|9=>9|21=>21|4=>4|3=>3|5=>5|0=>0|46=>109|n=>n,fun|n=>n⟩
theorem Tryz.lays151:Go.Proofs.Lays.n151 Tryz.prog Tryz.lays151_ren:={
  mixed:=by kernel_rfl
  f119:=Tryz.func181.trans (congrArg some (by kernel_rfl))
  f137:=Tryz.func221.trans (congrArg some (by kernel_rfl))
  f151:=Tryz.func178.trans (congrArg some (by kernel_rfl))
  f152:=Tryz.func198.trans (congrArg some (by kernel_rfl))
  f217:=Tryz.func242.trans (congrArg some (by kernel_rfl))
  f224:=Tryz.func222.trans (congrArg some (by kernel_rfl))
  f225:=Tryz.func223.trans (congrArg some (by kernel_rfl))
  f266:=Tryz.func253.trans (congrArg some (by kernel_rfl))
  t0:=Tryz.underlying0
  a0:=Tryz.isAgg0
  z0:=Tryz.sizeOf0
  v0:=Tryz.zeroValue0
  t3:=Tryz.underlying3
  a3:=Tryz.isAgg3
  z3:=Tryz.sizeOf3
  v3:=Tryz.zeroValue3
  t4:=Tryz.underlying4
  a4:=Tryz.isAgg4
  z4:=Tryz.sizeOf4
  v4:=Tryz.zeroValue4
  t5:=Tryz.underlying5
  a5:=Tryz.isAgg5
  z5:=Tryz.sizeOf5
  v5:=Tryz.zeroValue5
  t9:=Tryz.underlying9
  a9:=Tryz.isAgg9
  z9:=Tryz.sizeOf9
  v9:=Tryz.zeroValue9
  t21:=Tryz.underlying21
  a21:=Tryz.isAgg21
  z21:=Tryz.sizeOf21
  v21:=Tryz.zeroValue21
  t46:=Tryz.underlying109
  a46:=Tryz.isAgg109
  z46:=Tryz.sizeOf109
  v46:=Tryz.zeroValue109}
open Go.RowKit Go.Lib in
theorem Tryz.strings_ContainsRune_ascii (s:ByteArray) (r:Int) (w:World) (h0:0≤r) (h1:r<128):
    Calls Tryz.prog 178 #[.string s,.int .i32 r] w fun e w'=>e= .returned (.bool (decide (0≤Lib.indexByte s.data.toList r.toNat.toUInt8)))∧w'=w:=Any.strings_ContainsRune_ascii Tryz.lays151 s r w h0 h1
def Tryz.laysValid_ren:Go.Shelf.Ren:=⟨fun|196=>176|259=>197|n=>n,fun|9=>9|4=>4|3=>3|5=>5|12=>12|119=>249|0=>0|46=>109|139=>252|138=>251|53=>168|n=>n,fun|3=>0|4=>1|n=>n⟩
theorem Tryz.laysValid:Go.Proofs.Lays.n196 Tryz.prog Tryz.laysValid_ren:={
  mixed:=by kernel_rfl
  f196:=Tryz.func176.trans (congrArg some (by kernel_rfl))
  f259:=Tryz.func197.trans (congrArg some (by kernel_rfl))
  t0:=Tryz.underlying0
  a0:=Tryz.isAgg0
  z0:=Tryz.sizeOf0
  v0:=Tryz.zeroValue0
  t3:=Tryz.underlying3
  a3:=Tryz.isAgg3
  z3:=Tryz.sizeOf3
  v3:=Tryz.zeroValue3
  t4:=Tryz.underlying4
  a4:=Tryz.isAgg4
  z4:=Tryz.sizeOf4
  v4:=Tryz.zeroValue4
  t5:=Tryz.underlying5
  a5:=Tryz.isAgg5
  z5:=Tryz.sizeOf5
  v5:=Tryz.zeroValue5
  t9:=Tryz.underlying9
  a9:=Tryz.isAgg9
  z9:=Tryz.sizeOf9
  v9:=Tryz.zeroValue9
  t12:=Tryz.underlying12
  a12:=Tryz.isAgg12
  z12:=Tryz.sizeOf12
  v12:=Tryz.zeroValue12
  t46:=Tryz.underlying109
  a46:=Tryz.isAgg109
  z46:=Tryz.sizeOf109
  v46:=Tryz.zeroValue109
  t53:=Tryz.underlying168
  a53:=Tryz.isAgg168
  z53:=Tryz.sizeOf168
  v53:=Tryz.zeroValue168
  t119:=Tryz.underlying249
  a119:=Tryz.isAgg249
  z119:=Tryz.sizeOf249
  t138:=Tryz.underlying251
  a138:=Tryz.isAgg251
  z138:=Tryz.sizeOf251
  v138:=Tryz.zeroValue251
  t139:=Tryz.underlying252
  a139:=Tryz.isAgg252
  z139:=Tryz.sizeOf252
  v139:=Tryz.zeroValue252
  g3:=by kernel_rfl
  g4:=by kernel_rfl}
def Tryz.laysRev_ren:Go.Shelf.Ren:=⟨fun|35=>148|n=>n,fun|22=>29|23=>5|3=>3|4=>4|0=>0|n=>n,fun|n=>n⟩
theorem Tryz.laysRev:Go.Proofs.SlLaysE.n35 Tryz.prog Tryz.laysRev_ren:={
  mixed:=by kernel_rfl
  f35:=⟨Tryz.f148.name,by decide,Tryz.func148.trans (congrArg some (by kernel_rfl))⟩
  t0:=Tryz.underlying0
  a0:=Tryz.isAgg0
  z0:=Tryz.sizeOf0
  v0:=Tryz.zeroValue0
  t3:=Tryz.underlying3
  a3:=Tryz.isAgg3
  z3:=Tryz.sizeOf3
  v3:=Tryz.zeroValue3
  t4:=Tryz.underlying4
  a4:=Tryz.isAgg4
  z4:=Tryz.sizeOf4
  v4:=Tryz.zeroValue4
  t22:=Tryz.underlying29
  a22:=Tryz.isAgg29
  z22:=Tryz.sizeOf29
  v22:=Tryz.zeroValue29
  a23:=Tryz.isAgg5
  z23:=Tryz.sizeOf5}
def Tryz.laysGrow_ren:Go.Shelf.Ren:=⟨fun|4=>95|n=>n,fun|22=>29|25=>5|3=>3|4=>4|9=>9|20=>20|0=>0|n=>n,fun|n=>n⟩
theorem Tryz.laysGrow:Go.Proofs.Lays8.n4 Tryz.prog Tryz.laysGrow_ren:={
  mixed:=by kernel_rfl
  f4:=⟨Tryz.f95.name,by decide,Tryz.func95.trans (congrArg some (by kernel_rfl))⟩
  t0:=Tryz.underlying0
  a0:=Tryz.isAgg0
  z0:=Tryz.sizeOf0
  v0:=Tryz.zeroValue0
  t3:=Tryz.underlying3
  a3:=Tryz.isAgg3
  z3:=Tryz.sizeOf3
  v3:=Tryz.zeroValue3
  t4:=Tryz.underlying4
  a4:=Tryz.isAgg4
  z4:=Tryz.sizeOf4
  v4:=Tryz.zeroValue4
  t9:=Tryz.underlying9
  a9:=Tryz.isAgg9
  z9:=Tryz.sizeOf9
  v9:=Tryz.zeroValue9
  t20:=Tryz.underlying20
  a20:=Tryz.isAgg20
  z20:=Tryz.sizeOf20
  v20:=Tryz.zeroValue20
  t22:=Tryz.underlying29
  a22:=Tryz.isAgg29
  z22:=Tryz.sizeOf29
  v22:=Tryz.zeroValue29}
end Go.Proofs
