/- The shelf's contracts at this seat: those that its texts name. No condition but what each says. -/
import Derived.Shelf.Strings.Builder1
import Derived.Shelf.Strings.Builder2
import Derived.Shelf.Strings.OnBuilder
import Derived.Shelf.Small.Utf8
import Derived.Shelf.Small.Strs
import Derived.Shelf.Strings.BuilderF
import Derived.Shelf.Strings.BuilderK
import Derived.Shelf.Strings.BuilderRune
import Derived.Shelf.Utf8.AppendRune
import Derived.Shelf.Utf8.AppendRunePlain
import Derived.Shelf.Utf8.RuneCount
import Derived.Shelf.Strings.Builder2Cap
import Derived.Shelf.Strconv.Itoa0
import Derived.Shelf.Strconv.Itoa1
import Derived.Shelf.LaysM
import Derived.Shelf.Strconv.Itoa2
import Derived.Shelf.Strconv.Itoa3
import Derived.Shelf.Strconv.Clone
import Derived.Shelf.Strconv.SyntaxError
import Derived.Shelf.Strconv.Lower
import Derived.Shelf.Strconv.RangeError
import Derived.Shelf.LaysC
import Derived.Shelf.Strconv.ToErrorRange
import Derived.Ground.MpProg
import Derived.Shelf.Pu.ParseUintPublic10
import Derived.Shelf.Pu.ErrVarParseUint
import Derived.Shelf.Strings.Search1
import Derived.Shelf.Strings.Search2
import Derived.Shelf.Strings.Search3
import Derived.Shelf.Strings.Count
import Derived.Shelf.Strings.Shaped
import Derived.Shelf.Strings.Split
import Derived.Shelf.Strings.SplitShaped
import Derived.Shelf.Unicode.Decode
import Derived.Shelf.Strings.Runes
import Derived.Shelf.Strings.RuneCount
import Derived.Shelf.Strings.Explode
import Derived.Shelf.Unicode.DecodeSlow
import Derived.Shelf.Unicode.DecodeAny
import Derived.Shelf.Strings.BuilderCap
import Derived.Shelf.Unicode.ValidAny
import Derived.Shelf.SlicesE.Reverse
import Derived.Ground.SlgnProg
import Derived.Shelf.Spec.SlicesGrow
import Derived.Ground.Names8Prog
import Derived.Test.YtbedjionhmaafaaGreatDoorProg
namespace Go.Proofs
open Go.Shelf
def Tryz.lays169_ren:Go.Shelf.Ren:=⟨fun|169=>184|n=>n,fun|70=>315|9=>9|0=>0|72=>317|37=>22|127=>427|3=>3|5=>5|n=>n,fun|n=>n⟩
theorem Tryz.lays169:Go.Proofs.Lays.n169 Tryz.prog Tryz.lays169_ren:={
  mixed:=by kernel_rfl
  f169:=Tryz.func184.trans (congrArg some (by kernel_rfl))
  t0:=Tryz.underlying0
  a0:=Tryz.isAgg0
  z0:=Tryz.sizeOf0
  v0:=Tryz.zeroValue0
  t3:=Tryz.underlying3
  a3:=Tryz.isAgg3
  z3:=Tryz.sizeOf3
  v3:=Tryz.zeroValue3
  t9:=Tryz.underlying9
  a9:=Tryz.isAgg9
  z9:=Tryz.sizeOf9
  v9:=Tryz.zeroValue9
  t37:=Tryz.underlying22
  a37:=Tryz.isAgg22
  z37:=Tryz.sizeOf22
  v37:=Tryz.zeroValue22
  t70:=Tryz.underlying315
  a70:=Tryz.isAgg315
  z70:=Tryz.sizeOf315
  v70:=Tryz.zeroValue315
  t72:=Tryz.underlying317
  a72:=Tryz.isAgg317
  z72:=Tryz.sizeOf317
  v72:=Tryz.zeroValue317
  t127:=Tryz.underlying427
  a127:=Tryz.isAgg427
  z127:=Tryz.sizeOf427
  v127:=Tryz.zeroValue427}
theorem Tryz.Builder_Extra_169:Builder.Extra Tryz.prog Tryz.lays169_ren:={
  sizeBuilder:=by kernel_rfl
  liesBuilder:=by kernel_rfl
  t5:=Tryz.underlying5
  a5:=Tryz.isAgg5
  z5:=Tryz.sizeOf5
  v5:=Tryz.zeroValue5
  infoByte:=by kernel_rfl
  cellsByte:=by kernel_rfl
  sizeByte:=by kernel_rfl
  neB5:=by decide}
def Tryz.lays156_ren:Go.Shelf.Ren:=⟨fun|156=>157|165=>182|166=>183|169=>184|240=>254|241=>255|276=>323|277=>324|n=>n,fun|31=>45|9=>9|3=>3|4=>4|0=>0|20=>20|72=>317|76=>321|70=>315|37=>22|75=>320|127=>427|164=>522|5=>5|80=>323|n=>n,fun|n=>n⟩
theorem Tryz.lays156:Go.Proofs.Lays.n156 Tryz.prog Tryz.lays156_ren:={
  mixed:=by kernel_rfl
  f156:=Tryz.func157.trans (congrArg some (by kernel_rfl))
  f165:=Tryz.func182.trans (congrArg some (by kernel_rfl))
  f166:=Tryz.func183.trans (congrArg some (by kernel_rfl))
  f169:=Tryz.func184.trans (congrArg some (by kernel_rfl))
  f240:=Tryz.func254.trans (congrArg some (by kernel_rfl))
  f241:=Tryz.func255.trans (congrArg some (by kernel_rfl))
  f276:=Tryz.func323.trans (congrArg some (by kernel_rfl))
  f277:=Tryz.func324.trans (congrArg some (by kernel_rfl))
  t0:=Tryz.underlying0
  a0:=Tryz.isAgg0
  z0:=Tryz.sizeOf0
  v0:=Tryz.zeroValue0
  t3:=Tryz.underlying3
  a3:=Tryz.isAgg3
  z3:=Tryz.sizeOf3
  v3:=Tryz.zeroValue3
  t4:=Tryz.underlying4
  a4:=Tryz.isAgg4
  z4:=Tryz.sizeOf4
  v4:=Tryz.zeroValue4
  t9:=Tryz.underlying9
  a9:=Tryz.isAgg9
  z9:=Tryz.sizeOf9
  v9:=Tryz.zeroValue9
  t20:=Tryz.underlying20
  a20:=Tryz.isAgg20
  z20:=Tryz.sizeOf20
  v20:=Tryz.zeroValue20
  t31:=Tryz.underlying45
  a31:=Tryz.isAgg45
  z31:=Tryz.sizeOf45
  v31:=Tryz.zeroValue45
  t37:=Tryz.underlying22
  a37:=Tryz.isAgg22
  z37:=Tryz.sizeOf22
  v37:=Tryz.zeroValue22
  t70:=Tryz.underlying315
  a70:=Tryz.isAgg315
  z70:=Tryz.sizeOf315
  v70:=Tryz.zeroValue315
  t72:=Tryz.underlying317
  a72:=Tryz.isAgg317
  z72:=Tryz.sizeOf317
  v72:=Tryz.zeroValue317
  t75:=Tryz.underlying320
  a75:=Tryz.isAgg320
  z75:=Tryz.sizeOf320
  v75:=Tryz.zeroValue320
  t76:=Tryz.underlying321
  a76:=Tryz.isAgg321
  z76:=Tryz.sizeOf321
  v76:=Tryz.zeroValue321
  t127:=Tryz.underlying427
  a127:=Tryz.isAgg427
  z127:=Tryz.sizeOf427
  v127:=Tryz.zeroValue427
  t164:=Tryz.underlying522
  a164:=Tryz.isAgg522
  z164:=Tryz.sizeOf522
  v164:=Tryz.zeroValue522}
theorem Tryz.Builder_Extra_156:Builder.Extra Tryz.prog Tryz.lays156_ren:={
  sizeBuilder:=by kernel_rfl
  liesBuilder:=by kernel_rfl
  t5:=Tryz.underlying5
  a5:=Tryz.isAgg5
  z5:=Tryz.sizeOf5
  v5:=Tryz.zeroValue5
  infoByte:=by kernel_rfl
  cellsByte:=by kernel_rfl
  sizeByte:=by kernel_rfl
  neB5:=by decide}
open Go.RowKit in
theorem Tryz.strings_Join (bk o c:Nat) (xs:List ByteArray) (sep:ByteArray) (w:World) (hcells:∀(j:Nat) x,xs[j]?=some x→w.cell? ⟨bk,o+j,none⟩=some (.string x)) (hbk:bk<w.heap.size) (hN:xs.length≤140737488355328) (hcap:xs.length≤c) (hlen:(Lib.join (xs.map (·.data.toList)) sep.data.toList).length≤140737488355328):
    Calls Tryz.prog 157 #[.slice (some ⟨bk,o,none⟩) xs.length c,.string sep] w fun e w'=>e= .returned (.string ⟨(Lib.join (xs.map (·.data.toList)) sep.data.toList).toArray⟩)∧Below w.heap.size w w':=Any.strings_Join Tryz.lays156 Tryz.Builder_Extra_156 bk o c xs sep w hcells hbk hN hcap hlen
def Tryz.lays119_ren:Go.Shelf.Ren:=⟨fun|119=>423|n=>n,fun|21=>21|4=>4|n=>n,fun|n=>n⟩
theorem Tryz.lays119:Go.Proofs.Lays.n119 Tryz.prog Tryz.lays119_ren:={
  mixed:=by kernel_rfl
  f119:=Tryz.func423.trans (congrArg some (by kernel_rfl))
  t4:=Tryz.underlying4
  a4:=Tryz.isAgg4
  z4:=Tryz.sizeOf4
  v4:=Tryz.zeroValue4
  t21:=Tryz.underlying21
  a21:=Tryz.isAgg21
  z21:=Tryz.sizeOf21
  v21:=Tryz.zeroValue21}
theorem Tryz.utf8_ValidRune (r:Int) (w:World):
    Calls Tryz.prog 423 #[.int .i32 r] w fun e w'=>e= .returned (.bool (Lib.validRune r))∧w'=w:=Any.utf8_ValidRune Tryz.lays119 r w
def Tryz.lays137_ren:Go.Shelf.Ren:=⟨fun|137=>434|217=>403|266=>415|n=>n,fun|9=>9|5=>5|3=>3|n=>n,fun|n=>n⟩
theorem Tryz.lays137:Go.Proofs.Lays.n137 Tryz.prog Tryz.lays137_ren:={
  mixed:=by kernel_rfl
  f137:=Tryz.func434.trans (congrArg some (by kernel_rfl))
  f217:=Tryz.func403.trans (congrArg some (by kernel_rfl))
  f266:=Tryz.func415.trans (congrArg some (by kernel_rfl))
  t3:=Tryz.underlying3
  a3:=Tryz.isAgg3
  z3:=Tryz.sizeOf3
  v3:=Tryz.zeroValue3
  t5:=Tryz.underlying5
  a5:=Tryz.isAgg5
  z5:=Tryz.sizeOf5
  v5:=Tryz.zeroValue5
  t9:=Tryz.underlying9
  a9:=Tryz.isAgg9
  z9:=Tryz.sizeOf9
  v9:=Tryz.zeroValue9}
open Go.RowKit in
theorem Tryz.strings_IndexByte (s:ByteArray) (c:Int) (w:World):
    Calls Tryz.prog 434 #[.string s,.int .u8 c] w fun e w'=>e= .returned (.int .i64 (Lib.indexByte s.data.toList c.toNat.toUInt8))∧w'=w:=Any.strings_IndexByte Tryz.lays137 s c w
open Go.RowKit in
theorem Tryz.Builder_String_any_k (B b:Nat) (l:List UInt8) (w:World) (h:Lib.IsBuilderF 317 5 B b (Lib.byteCells l) w) (hBw:B≤w.heap.size):
    Calls Tryz.prog 184 #[.pointer (some ⟨b,0,none⟩)] w fun e w'=>e= .returned (.string ⟨l.toArray⟩)∧(Lib.IsBuilderF 317 5 B b (Lib.byteCells l) w'∧Below B w w'∧Lib.OthersKept 5 (some b) w w'):=Any.Builder_String_any_k Tryz.lays169 Tryz.Builder_Extra_169 B b l w h hBw
def Tryz.lays242_ren:Go.Shelf.Ren:=⟨fun|242=>433|278=>435|n=>n,fun|37=>22|21=>21|51=>215|4=>4|5=>5|46=>214|n=>n,fun|n=>n⟩
theorem Tryz.lays242:Go.Proofs.Lays.n242 Tryz.prog Tryz.lays242_ren:={
  mixed:=by kernel_rfl
  f242:=Tryz.func433.trans (congrArg some (by kernel_rfl))
  f278:=Tryz.func435.trans (congrArg some (by kernel_rfl))
  t4:=Tryz.underlying4
  a4:=Tryz.isAgg4
  z4:=Tryz.sizeOf4
  v4:=Tryz.zeroValue4
  t5:=Tryz.underlying5
  a5:=Tryz.isAgg5
  z5:=Tryz.sizeOf5
  v5:=Tryz.zeroValue5
  t21:=Tryz.underlying21
  a21:=Tryz.isAgg21
  z21:=Tryz.sizeOf21
  v21:=Tryz.zeroValue21
  t37:=Tryz.underlying22
  a37:=Tryz.isAgg22
  z37:=Tryz.sizeOf22
  v37:=Tryz.zeroValue22
  t46:=Tryz.underlying214
  a46:=Tryz.isAgg214
  z46:=Tryz.sizeOf214
  v46:=Tryz.zeroValue214
  t51:=Tryz.underlying215
  a51:=Tryz.isAgg215
  z51:=Tryz.sizeOf215
  v51:=Tryz.zeroValue215}
open Go.RowKit in
theorem Tryz.utf8_AppendRune_plain (B:Nat) (v:Value) (n:Nat) (xs:List Value) (r:Int) (hr0: -2147483648≤r) (hr1:r≤2147483647) (w:World) (hown:w.ownsRow B 5 1 v n xs) (hlen:n+4≤140737488355328) (hBw:B≤w.heap.size):
    Calls Tryz.prog 433 #[v,.int .i32 r] w fun e w'=>∃v',e= .returned v'∧w'.ownsRow B 5 1 v' (n+(Lib.runeCells r).length) (xs++Lib.runeCells r)∧∃o,(w.alloc o).grownBy w' v.ownBlock:=Any.utf8_AppendRune_plain Tryz.lays242 (by kernel_rfl) B v n xs r hr0 hr1 w hown hlen hBw
def Tryz.lays195_ren:Go.Shelf.Ren:=⟨fun|195=>376|n=>n,fun|9=>9|3=>3|0=>0|4=>4|n=>n,fun|n=>n⟩
theorem Tryz.lays195:Go.Proofs.Lays.n195 Tryz.prog Tryz.lays195_ren:={
  mixed:=by kernel_rfl
  f195:=Tryz.func376.trans (congrArg some (by kernel_rfl))
  t0:=Tryz.underlying0
  a0:=Tryz.isAgg0
  z0:=Tryz.sizeOf0
  v0:=Tryz.zeroValue0
  t3:=Tryz.underlying3
  a3:=Tryz.isAgg3
  z3:=Tryz.sizeOf3
  v3:=Tryz.zeroValue3
  t4:=Tryz.underlying4
  a4:=Tryz.isAgg4
  z4:=Tryz.sizeOf4
  v4:=Tryz.zeroValue4
  t9:=Tryz.underlying9
  a9:=Tryz.isAgg9
  z9:=Tryz.sizeOf9
  v9:=Tryz.zeroValue9}
open Go.RowKit in
theorem Tryz.utf8_RuneCountInString (s:ByteArray) (w:World) (hs:s.size<9223372036854775807):
    Calls Tryz.prog 376 #[.string s] w fun e w'=>e= .returned (.int .i64 (Lib.runeCount s))∧∃pos,w'=w.iter s pos:=Any.utf8_RuneCountInString Tryz.lays195 s w hs
def Tryz.lays283_ren:Go.Shelf.Ren:=⟨fun|283=>250|n=>n,fun|3=>3|9=>9|4=>4|n=>n,fun|n=>n⟩
theorem Tryz.lays283:Go.Proofs.Lays.n283 Tryz.prog Tryz.lays283_ren:={
  mixed:=by kernel_rfl
  f283:=Tryz.func250.trans (congrArg some (by kernel_rfl))
  t3:=Tryz.underlying3
  a3:=Tryz.isAgg3
  z3:=Tryz.sizeOf3
  v3:=Tryz.zeroValue3
  t4:=Tryz.underlying4
  a4:=Tryz.isAgg4
  z4:=Tryz.sizeOf4
  v4:=Tryz.zeroValue4
  t9:=Tryz.underlying9
  a9:=Tryz.isAgg9
  z9:=Tryz.sizeOf9
  v9:=Tryz.zeroValue9}
open Go.Lib in
theorem Tryz.internal_strconv_small (i:Nat) (h:i<100) (w:World):
    Calls Tryz.prog 250 #[.int .i64 i] w fun e w'=>e= .returned (.string ⟨(Lib.decDigits i).toArray⟩)∧w'=w:=Any.internal_strconv_small Tryz.lays283 i h w
def Tryz.laysM284_ren:Go.Shelf.Ren:=⟨fun|284=>251|129=>319|317=>318|318=>320|n=>n,fun|53=>213|3=>3|212=>519|0=>0|4=>4|46=>214|5=>5|9=>9|n=>n,fun|17=>0|n=>n⟩
theorem Tryz.laysM284:Go.Proofs.LaysM.n284 Tryz.prog Tryz.laysM284_ren:={
  mixed:=by kernel_rfl
  f129:=Tryz.func319.trans (congrArg some (by kernel_rfl))
  f284:=Tryz.func251.trans (congrArg some (by kernel_rfl))
  f317:=Tryz.func318.trans (congrArg some (by kernel_rfl))
  f318:=Tryz.func320.trans (congrArg some (by kernel_rfl))
  t0:=Tryz.underlying0
  a0:=Tryz.isAgg0
  z0:=Tryz.sizeOf0
  v0:=Tryz.zeroValue0
  t3:=Tryz.underlying3
  a3:=Tryz.isAgg3
  z3:=Tryz.sizeOf3
  v3:=Tryz.zeroValue3
  t4:=Tryz.underlying4
  a4:=Tryz.isAgg4
  z4:=Tryz.sizeOf4
  v4:=Tryz.zeroValue4
  t5:=Tryz.underlying5
  a5:=Tryz.isAgg5
  z5:=Tryz.sizeOf5
  v5:=Tryz.zeroValue5
  t9:=Tryz.underlying9
  a9:=Tryz.isAgg9
  z9:=Tryz.sizeOf9
  v9:=Tryz.zeroValue9
  t46:=Tryz.underlying214
  a46:=Tryz.isAgg214
  z46:=Tryz.sizeOf214
  v46:=Tryz.zeroValue214
  t53:=Tryz.underlying213
  a53:=Tryz.isAgg213
  z53:=Tryz.sizeOf213
  v53:=Tryz.zeroValue213
  t212:=Tryz.underlying519
  a212:=Tryz.isAgg519
  z212:=Tryz.sizeOf519
  v212:=Tryz.zeroValue519
  g17:=by kernel_rfl
  i0:=by kernel_rfl
  i3:=by kernel_rfl
  i4:=by kernel_rfl
  i5:=by kernel_rfl
  i9:=by kernel_rfl
  i46:=by kernel_rfl
  i53:=by kernel_rfl
  i212:=by kernel_rfl
  m17:=by kernel_rfl}
open Go.Lib in
theorem Tryz.internal_strconv_numDigits (u:Nat) (h1:1≤u) (h2:u<18446744073709551616) (w:World) (htab:Lib.TabIs Tryz.prog w "internal/strconv.uint64pow10" .u64 Lib.pow10Tab):
    Calls Tryz.prog 251 #[.int .u64 u] w fun e w'=>e= .returned (.int .i64 (Lib.nDigits u))∧w'=w:=Any.internal_strconv_numDigits Tryz.laysM284 u h1 h2 w htab
def Tryz.lays285_ren:Go.Shelf.Ren:=⟨fun|285=>252|n=>n,fun|37=>22|53=>213|3=>3|4=>4|51=>215|9=>9|5=>5|0=>0|n=>n,fun|n=>n⟩
theorem Tryz.lays285:Go.Proofs.Lays.n285 Tryz.prog Tryz.lays285_ren:={
  mixed:=by kernel_rfl
  f285:=Tryz.func252.trans (congrArg some (by kernel_rfl))
  t0:=Tryz.underlying0
  a0:=Tryz.isAgg0
  z0:=Tryz.sizeOf0
  v0:=Tryz.zeroValue0
  t3:=Tryz.underlying3
  a3:=Tryz.isAgg3
  z3:=Tryz.sizeOf3
  v3:=Tryz.zeroValue3
  t4:=Tryz.underlying4
  a4:=Tryz.isAgg4
  z4:=Tryz.sizeOf4
  v4:=Tryz.zeroValue4
  t5:=Tryz.underlying5
  a5:=Tryz.isAgg5
  z5:=Tryz.sizeOf5
  v5:=Tryz.zeroValue5
  t9:=Tryz.underlying9
  a9:=Tryz.isAgg9
  z9:=Tryz.sizeOf9
  v9:=Tryz.zeroValue9
  t37:=Tryz.underlying22
  a37:=Tryz.isAgg22
  z37:=Tryz.sizeOf22
  v37:=Tryz.zeroValue22
  t51:=Tryz.underlying215
  a51:=Tryz.isAgg215
  z51:=Tryz.sizeOf215
  v51:=Tryz.zeroValue215
  t53:=Tryz.underlying213
  a53:=Tryz.isAgg213
  z53:=Tryz.sizeOf213
  v53:=Tryz.zeroValue213}
open Go.RowKit Go.Sort Go.Lib in
theorem Tryz.internal_strconv_formatBase10 (blk off cap:Nat) (u:Nat) (d:Array UInt8) (w:World) (hH:Holds (fun(b:UInt8)=>Value.int .u8 (b.toNat:Int)) w blk off d) (hu:u<10^d.size) (hu64:u<18446744073709551616) (hsz:d.size<4611686018427387904):
    Calls Tryz.prog 252 #[.slice (some ⟨blk,off,none⟩) d.size cap,.int .u64 u] w fun e w'=>
      e= .returned (.tuple #[])∧∃(n v':Nat) (dk:Array UInt8),w'=(putRow (fun(b:UInt8)=>Value.int .u8 (b.toNat:Int)) w blk off dk).drewN n∧FmtInv d.size u 0 v' dk:=Any.internal_strconv_formatBase10 Tryz.lays285 blk off cap u d w hH hu hu64 hsz
def Tryz.laysPu14_ren:Go.Shelf.Ren:=⟨fun|14=>190|16=>258|17=>259|19=>328|20=>329|21=>330|22=>331|23=>332|24=>333|25=>380|27=>382|26=>381|28=>407|29=>417|30=>250|31=>251|32=>252|33=>253|35=>319|34=>318|36=>320|37=>321|38=>322|39=>374|40=>375|n=>n,fun|9=>9|3=>3|22=>213|24=>320|25=>331|4=>4|34=>527|5=>5|36=>214|37=>22|0=>0|39=>529|21=>21|44=>572|47=>427|50=>591|48=>589|2=>2|52=>422|55=>425|59=>519|60=>215|20=>20|61=>520|65=>587|66=>588|67=>323|n=>n,fun|0=>2|1=>3|2=>0|3=>4|4=>5|n=>n⟩
theorem Tryz.laysPu14:Go.Proofs.LaysPu.n14 Tryz.prog Tryz.laysPu14_ren:={
  mixed:=by kernel_rfl
  f14:=Tryz.func190.trans (congrArg some (by kernel_rfl))
  f16:=Tryz.func258.trans (congrArg some (by kernel_rfl))
  f17:=Tryz.func259.trans (congrArg some (by kernel_rfl))
  f19:=Tryz.func328.trans (congrArg some (by kernel_rfl))
  f20:=Tryz.func329.trans (congrArg some (by kernel_rfl))
  f21:=Tryz.func330.trans (congrArg some (by kernel_rfl))
  f22:=Tryz.func331.trans (congrArg some (by kernel_rfl))
  f23:=Tryz.func332.trans (congrArg some (by kernel_rfl))
  f24:=Tryz.func333.trans (congrArg some (by kernel_rfl))
  f25:=Tryz.func380.trans (congrArg some (by kernel_rfl))
  f26:=Tryz.func381.trans (congrArg some (by kernel_rfl))
  f27:=Tryz.func382.trans (congrArg some (by kernel_rfl))
  f28:=Tryz.func407.trans (congrArg some (by kernel_rfl))
  f29:=Tryz.func417.trans (congrArg some (by kernel_rfl))
  f30:=Tryz.func250.trans (congrArg some (by kernel_rfl))
  f31:=Tryz.func251.trans (congrArg some (by kernel_rfl))
  f32:=Tryz.func252.trans (congrArg some (by kernel_rfl))
  f33:=Tryz.func253.trans (congrArg some (by kernel_rfl))
  f34:=Tryz.func318.trans (congrArg some (by kernel_rfl))
  f35:=Tryz.func319.trans (congrArg some (by kernel_rfl))
  f36:=Tryz.func320.trans (congrArg some (by kernel_rfl))
  f37:=Tryz.func321.trans (congrArg some (by kernel_rfl))
  f38:=Tryz.func322.trans (congrArg some (by kernel_rfl))
  f39:=Tryz.func374.trans (congrArg some (by kernel_rfl))
  f40:=Tryz.func375.trans (congrArg some (by kernel_rfl))
  t0:=Tryz.underlying0
  a0:=Tryz.isAgg0
  z0:=Tryz.sizeOf0
  v0:=Tryz.zeroValue0
  i0:=by kernel_rfl
  t2:=Tryz.underlying2
  a2:=Tryz.isAgg2
  z2:=Tryz.sizeOf2
  v2:=Tryz.zeroValue2
  i2:=by kernel_rfl
  t3:=Tryz.underlying3
  a3:=Tryz.isAgg3
  z3:=Tryz.sizeOf3
  v3:=Tryz.zeroValue3
  i3:=by kernel_rfl
  t4:=Tryz.underlying4
  a4:=Tryz.isAgg4
  z4:=Tryz.sizeOf4
  v4:=Tryz.zeroValue4
  i4:=by kernel_rfl
  t5:=Tryz.underlying5
  a5:=Tryz.isAgg5
  z5:=Tryz.sizeOf5
  v5:=Tryz.zeroValue5
  i5:=by kernel_rfl
  t9:=Tryz.underlying9
  a9:=Tryz.isAgg9
  z9:=Tryz.sizeOf9
  v9:=Tryz.zeroValue9
  i9:=by kernel_rfl
  t20:=Tryz.underlying20
  a20:=Tryz.isAgg20
  z20:=Tryz.sizeOf20
  v20:=Tryz.zeroValue20
  i20:=by kernel_rfl
  t21:=Tryz.underlying21
  a21:=Tryz.isAgg21
  z21:=Tryz.sizeOf21
  v21:=Tryz.zeroValue21
  i21:=by kernel_rfl
  t22:=Tryz.underlying213
  a22:=Tryz.isAgg213
  z22:=Tryz.sizeOf213
  v22:=Tryz.zeroValue213
  i22:=by kernel_rfl
  t24:=Tryz.underlying320
  a24:=Tryz.isAgg320
  z24:=Tryz.sizeOf320
  v24:=Tryz.zeroValue320
  i24:=by kernel_rfl
  t25:=Tryz.underlying331
  a25:=Tryz.isAgg331
  z25:=Tryz.sizeOf331
  v25:=Tryz.zeroValue331
  i25:=by kernel_rfl
  t34:=Tryz.underlying527
  a34:=Tryz.isAgg527
  z34:=Tryz.sizeOf527
  v34:=Tryz.zeroValue527
  i34:=by kernel_rfl
  c34:=by kernel_rfl
  t36:=Tryz.underlying214
  a36:=Tryz.isAgg214
  z36:=Tryz.sizeOf214
  v36:=Tryz.zeroValue214
  i36:=by kernel_rfl
  t37:=Tryz.underlying22
  a37:=Tryz.isAgg22
  z37:=Tryz.sizeOf22
  v37:=Tryz.zeroValue22
  i37:=by kernel_rfl
  t39:=Tryz.underlying529
  a39:=Tryz.isAgg529
  z39:=Tryz.sizeOf529
  v39:=Tryz.zeroValue529
  i39:=by kernel_rfl
  t44:=Tryz.underlying572
  a44:=Tryz.isAgg572
  z44:=Tryz.sizeOf572
  v44:=Tryz.zeroValue572
  i44:=by kernel_rfl
  t47:=Tryz.underlying427
  a47:=Tryz.isAgg427
  z47:=Tryz.sizeOf427
  v47:=Tryz.zeroValue427
  i47:=by kernel_rfl
  t48:=Tryz.underlying589
  a48:=Tryz.isAgg589
  z48:=Tryz.sizeOf589
  v48:=Tryz.zeroValue589
  i48:=by kernel_rfl
  t50:=Tryz.underlying591
  a50:=Tryz.isAgg591
  z50:=Tryz.sizeOf591
  v50:=Tryz.zeroValue591
  i50:=by kernel_rfl
  t52:=Tryz.underlying422
  a52:=Tryz.isAgg422
  z52:=Tryz.sizeOf422
  v52:=Tryz.zeroValue422
  i52:=by kernel_rfl
  t55:=Tryz.underlying425
  a55:=Tryz.isAgg425
  z55:=Tryz.sizeOf425
  v55:=Tryz.zeroValue425
  i55:=by kernel_rfl
  t59:=Tryz.underlying519
  a59:=Tryz.isAgg519
  z59:=Tryz.sizeOf519
  v59:=Tryz.zeroValue519
  i59:=by kernel_rfl
  t60:=Tryz.underlying215
  a60:=Tryz.isAgg215
  z60:=Tryz.sizeOf215
  v60:=Tryz.zeroValue215
  i60:=by kernel_rfl
  t61:=Tryz.underlying520
  a61:=Tryz.isAgg520
  z61:=Tryz.sizeOf520
  t65:=Tryz.underlying587
  a65:=Tryz.isAgg587
  z65:=Tryz.sizeOf587
  v65:=Tryz.zeroValue587
  i65:=by kernel_rfl
  t66:=Tryz.underlying588
  a66:=Tryz.isAgg588
  z66:=Tryz.sizeOf588
  v66:=Tryz.zeroValue588
  i66:=by kernel_rfl
  t67:=Tryz.underlying323
  a67:=Tryz.isAgg323
  z67:=Tryz.sizeOf323
  v67:=Tryz.zeroValue323
  i67:=by kernel_rfl
  g0:=by kernel_rfl
  m0:=by kernel_rfl
  g1:=by kernel_rfl
  m1:=by kernel_rfl
  g2:=by kernel_rfl
  m2:=by kernel_rfl
  g3:=by kernel_rfl
  m3:=by kernel_rfl
  g4:=by kernel_rfl
  m4:=by kernel_rfl}
open Go.RowKit in
theorem Tryz.strconv_ParseUint_10_at32_ok (s:ByteArray) (hmax:s.size≤9223372036854775806) (u:Nat) (h:Lib.parseUintB 32 s.data.toList= .ok u) (w:World):
    Calls Tryz.prog 190 #[.string s,.int .i64 10,.int .i64 32] w fun e w'=>e= .returned (.tuple #[.int .u64 u,.nilIface])∧(w'=w∨w'=Lib.bytesWorld w 5 s):=Any.strconv_ParseUint_10_at32_ok Tryz.laysPu14 s hmax u h w
open Go.RowKit in
theorem Tryz.strconv_ParseUint_10_at32_syntax (s:ByteArray) (hlim:s.size≤281474976710656) (h:Lib.parseUintB 32 s.data.toList=Lib.NumEnd.syntax) (ev:Value) (w:World) (hv:w.cell? ⟨2,0,none⟩=some ev) (hev:ev= .nilIface∨∃te pe,ev= .iface te pe):
    Calls Tryz.prog 190 #[.string s,.int .i64 10,.int .i64 32] w fun e w'=>∃N,e= .returned (.tuple #[.int .u64 0,.iface 529 (.pointer (some ⟨N,0,none⟩))])∧w.heap.size≤N∧w'.heap[N]?=some (.cells #[.string ⟨#[80,97,114,115,101,85,105,110,116]⟩,.string s,ev] 572 (0,0))∧Below w.heap.size w w':=Any.strconv_ParseUint_10_at32_syntax Tryz.laysPu14 s hlim h ev w hv hev
open Go.RowKit in
theorem Tryz.strconv_ParseUint_10_at32_range (s:ByteArray) (hlim:s.size≤281474976710656) (h:Lib.parseUintB 32 s.data.toList= .range) (ev:Value) (w:World) (hv:w.cell? ⟨3,0,none⟩=some ev) (hev:ev= .nilIface∨∃te pe,ev= .iface te pe):
    Calls Tryz.prog 190 #[.string s,.int .i64 10,.int .i64 32] w fun e w'=>∃N,e= .returned (.tuple #[.int .u64 4294967295,.iface 529 (.pointer (some ⟨N,0,none⟩))])∧w.heap.size≤N∧w'.heap[N]?=some (.cells #[.string ⟨#[80,97,114,115,101,85,105,110,116]⟩,.string s,ev] 572 (0,0))∧Below w.heap.size w w':=Any.strconv_ParseUint_10_at32_range Tryz.laysPu14 s hlim h ev w hv hev
def Tryz.lays146_ren:Go.Shelf.Ren:=⟨fun|146=>189|221=>257|268=>325|138=>326|143=>327|195=>376|197=>377|218=>378|219=>379|260=>402|217=>403|225=>404|224=>405|267=>406|266=>415|314=>416|n=>n,fun|9=>9|31=>45|3=>3|4=>4|0=>0|105=>567|21=>21|5=>5|46=>214|119=>605|139=>608|138=>607|146=>609|51=>215|n=>n,fun|1=>1|3=>6|4=>7|n=>n⟩
theorem Tryz.lays146:Go.Proofs.Lays.n146 Tryz.prog Tryz.lays146_ren:={
  mixed:=by kernel_rfl
  f138:=Tryz.func326.trans (congrArg some (by kernel_rfl))
  f143:=Tryz.func327.trans (congrArg some (by kernel_rfl))
  f146:=Tryz.func189.trans (congrArg some (by kernel_rfl))
  f195:=Tryz.func376.trans (congrArg some (by kernel_rfl))
  f197:=Tryz.func377.trans (congrArg some (by kernel_rfl))
  f217:=Tryz.func403.trans (congrArg some (by kernel_rfl))
  f218:=Tryz.func378.trans (congrArg some (by kernel_rfl))
  f219:=Tryz.func379.trans (congrArg some (by kernel_rfl))
  f221:=Tryz.func257.trans (congrArg some (by kernel_rfl))
  f224:=Tryz.func405.trans (congrArg some (by kernel_rfl))
  f225:=Tryz.func404.trans (congrArg some (by kernel_rfl))
  f260:=Tryz.func402.trans (congrArg some (by kernel_rfl))
  f266:=Tryz.func415.trans (congrArg some (by kernel_rfl))
  f267:=Tryz.func406.trans (congrArg some (by kernel_rfl))
  f268:=Tryz.func325.trans (congrArg some (by kernel_rfl))
  f314:=Tryz.func416.trans (congrArg some (by kernel_rfl))
  t0:=Tryz.underlying0
  a0:=Tryz.isAgg0
  z0:=Tryz.sizeOf0
  v0:=Tryz.zeroValue0
  t3:=Tryz.underlying3
  a3:=Tryz.isAgg3
  z3:=Tryz.sizeOf3
  v3:=Tryz.zeroValue3
  t4:=Tryz.underlying4
  a4:=Tryz.isAgg4
  z4:=Tryz.sizeOf4
  v4:=Tryz.zeroValue4
  t5:=Tryz.underlying5
  a5:=Tryz.isAgg5
  z5:=Tryz.sizeOf5
  v5:=Tryz.zeroValue5
  t9:=Tryz.underlying9
  a9:=Tryz.isAgg9
  z9:=Tryz.sizeOf9
  v9:=Tryz.zeroValue9
  t21:=Tryz.underlying21
  a21:=Tryz.isAgg21
  z21:=Tryz.sizeOf21
  v21:=Tryz.zeroValue21
  t31:=Tryz.underlying45
  a31:=Tryz.isAgg45
  z31:=Tryz.sizeOf45
  v31:=Tryz.zeroValue45
  t46:=Tryz.underlying214
  a46:=Tryz.isAgg214
  z46:=Tryz.sizeOf214
  v46:=Tryz.zeroValue214
  t51:=Tryz.underlying215
  a51:=Tryz.isAgg215
  z51:=Tryz.sizeOf215
  v51:=Tryz.zeroValue215
  t105:=Tryz.underlying567
  a105:=Tryz.isAgg567
  z105:=Tryz.sizeOf567
  v105:=Tryz.zeroValue567
  t119:=Tryz.underlying605
  a119:=Tryz.isAgg605
  z119:=Tryz.sizeOf605
  t138:=Tryz.underlying607
  a138:=Tryz.isAgg607
  z138:=Tryz.sizeOf607
  v138:=Tryz.zeroValue607
  t139:=Tryz.underlying608
  a139:=Tryz.isAgg608
  z139:=Tryz.sizeOf608
  v139:=Tryz.zeroValue608
  t146:=Tryz.underlying609
  a146:=Tryz.isAgg609
  z146:=Tryz.sizeOf609
  v146:=Tryz.zeroValue609
  g1:=by kernel_rfl
  g3:=by kernel_rfl
  g4:=by kernel_rfl}
open Go.RowKit Go.Lib in
theorem Tryz.strings_Split (s sep:ByteArray) (m:Int) (w:World) (hs:s.size<4294967281) (hm:w.cell? ⟨1,0,none⟩=some (.int .i64 m)) (h1:1≤sep.size):
    Calls Tryz.prog 189 #[.string s,.string sep] w fun e w'=>
      e= .returned (.slice (some ⟨w.heap.size,0,none⟩) (Lib.countB s sep+1) (Lib.countB s sep+1))∧w'=w.alloc (.cells ((Lib.splitB sep 0 (Lib.countB s sep) s).map Value.string).toArray 9):=Any.strings_Split Tryz.lays146 (by kernel_rfl) s sep m w hs hm h1
def Tryz.lays151_ren:Go.Shelf.Ren:=⟨fun|151=>420|152=>430|137=>434|119=>423|224=>405|225=>404|217=>403|266=>415|n=>n,fun|9=>9|21=>21|4=>4|3=>3|5=>5|0=>0|46=>214|n=>n,fun|n=>n⟩
theorem Tryz.lays151:Go.Proofs.Lays.n151 Tryz.prog Tryz.lays151_ren:={
  mixed:=by kernel_rfl
  f119:=Tryz.func423.trans (congrArg some (by kernel_rfl))
  f137:=Tryz.func434.trans (congrArg some (by kernel_rfl))
  f151:=Tryz.func420.trans (congrArg some (by kernel_rfl))
  f152:=Tryz.func430.trans (congrArg some (by kernel_rfl))
  f217:=Tryz.func403.trans (congrArg some (by kernel_rfl))
  f224:=Tryz.func405.trans (congrArg some (by kernel_rfl))
  f225:=Tryz.func404.trans (congrArg some (by kernel_rfl))
  f266:=Tryz.func415.trans (congrArg some (by kernel_rfl))
  t0:=Tryz.underlying0
  a0:=Tryz.isAgg0
  z0:=Tryz.sizeOf0
  v0:=Tryz.zeroValue0
  t3:=Tryz.underlying3
  a3:=Tryz.isAgg3
  z3:=Tryz.sizeOf3
  v3:=Tryz.zeroValue3
  t4:=Tryz.underlying4
  a4:=Tryz.isAgg4
  z4:=Tryz.sizeOf4
  v4:=Tryz.zeroValue4
  t5:=Tryz.underlying5
  a5:=Tryz.isAgg5
  z5:=Tryz.sizeOf5
  v5:=Tryz.zeroValue5
  t9:=Tryz.underlying9
  a9:=Tryz.isAgg9
  z9:=Tryz.sizeOf9
  v9:=Tryz.zeroValue9
  t21:=Tryz.underlying21
  a21:=Tryz.isAgg21
  z21:=Tryz.sizeOf21
  v21:=Tryz.zeroValue21
  t46:=Tryz.underlying214
  a46:=Tryz.isAgg214
  z46:=Tryz.sizeOf214
  v46:=Tryz.zeroValue214}
open Go.RowKit Go.Lib in
theorem Tryz.strings_ContainsRune_ascii (s:ByteArray) (r:Int) (w:World) (h0:0≤r) (h1:r<128):
    Calls Tryz.prog 420 #[.string s,.int .i32 r] w fun e w'=>e= .returned (.bool (decide (0≤Lib.indexByte s.data.toList r.toNat.toUInt8)))∧w'=w:=Any.strings_ContainsRune_ascii Tryz.lays151 s r w h0 h1
def Tryz.laysValid_ren:Go.Shelf.Ren:=⟨fun|196=>418|259=>429|n=>n,fun|9=>9|4=>4|3=>3|5=>5|12=>12|119=>605|0=>0|46=>214|139=>608|138=>607|53=>213|n=>n,fun|3=>6|4=>7|n=>n⟩
theorem Tryz.laysValid:Go.Proofs.Lays.n196 Tryz.prog Tryz.laysValid_ren:={
  mixed:=by kernel_rfl
  f196:=Tryz.func418.trans (congrArg some (by kernel_rfl))
  f259:=Tryz.func429.trans (congrArg some (by kernel_rfl))
  t0:=Tryz.underlying0
  a0:=Tryz.isAgg0
  z0:=Tryz.sizeOf0
  v0:=Tryz.zeroValue0
  t3:=Tryz.underlying3
  a3:=Tryz.isAgg3
  z3:=Tryz.sizeOf3
  v3:=Tryz.zeroValue3
  t4:=Tryz.underlying4
  a4:=Tryz.isAgg4
  z4:=Tryz.sizeOf4
  v4:=Tryz.zeroValue4
  t5:=Tryz.underlying5
  a5:=Tryz.isAgg5
  z5:=Tryz.sizeOf5
  v5:=Tryz.zeroValue5
  t9:=Tryz.underlying9
  a9:=Tryz.isAgg9
  z9:=Tryz.sizeOf9
  v9:=Tryz.zeroValue9
  t12:=Tryz.underlying12
  a12:=Tryz.isAgg12
  z12:=Tryz.sizeOf12
  v12:=Tryz.zeroValue12
  t46:=Tryz.underlying214
  a46:=Tryz.isAgg214
  z46:=Tryz.sizeOf214
  v46:=Tryz.zeroValue214
  t53:=Tryz.underlying213
  a53:=Tryz.isAgg213
  z53:=Tryz.sizeOf213
  v53:=Tryz.zeroValue213
  t119:=Tryz.underlying605
  a119:=Tryz.isAgg605
  z119:=Tryz.sizeOf605
  t138:=Tryz.underlying607
  a138:=Tryz.isAgg607
  z138:=Tryz.sizeOf607
  v138:=Tryz.zeroValue607
  t139:=Tryz.underlying608
  a139:=Tryz.isAgg608
  z139:=Tryz.sizeOf608
  v139:=Tryz.zeroValue608
  g3:=by kernel_rfl
  g4:=by kernel_rfl}
def Tryz.laysRev_ren:Go.Shelf.Ren:=⟨fun|35=>167|n=>n,fun|22=>22|23=>5|3=>3|4=>4|0=>0|n=>n,fun|n=>n⟩
theorem Tryz.laysRev:Go.Proofs.SlLaysE.n35 Tryz.prog Tryz.laysRev_ren:={
  mixed:=by kernel_rfl
  f35:=⟨Tryz.f167.name,by decide,Tryz.func167.trans (congrArg some (by kernel_rfl))⟩
  t0:=Tryz.underlying0
  a0:=Tryz.isAgg0
  z0:=Tryz.sizeOf0
  v0:=Tryz.zeroValue0
  t3:=Tryz.underlying3
  a3:=Tryz.isAgg3
  z3:=Tryz.sizeOf3
  v3:=Tryz.zeroValue3
  t4:=Tryz.underlying4
  a4:=Tryz.isAgg4
  z4:=Tryz.sizeOf4
  v4:=Tryz.zeroValue4
  t22:=Tryz.underlying22
  a22:=Tryz.isAgg22
  z22:=Tryz.sizeOf22
  v22:=Tryz.zeroValue22
  a23:=Tryz.isAgg5
  z23:=Tryz.sizeOf5}
def Tryz.laysGrow_ren:Go.Shelf.Ren:=⟨fun|4=>134|n=>n,fun|22=>22|25=>5|3=>3|4=>4|9=>9|20=>20|0=>0|n=>n,fun|n=>n⟩
theorem Tryz.laysGrow:Go.Proofs.Lays8.n4 Tryz.prog Tryz.laysGrow_ren:={
  mixed:=by kernel_rfl
  f4:=⟨Tryz.f134.name,by decide,Tryz.func134.trans (congrArg some (by kernel_rfl))⟩
  t0:=Tryz.underlying0
  a0:=Tryz.isAgg0
  z0:=Tryz.sizeOf0
  v0:=Tryz.zeroValue0
  t3:=Tryz.underlying3
  a3:=Tryz.isAgg3
  z3:=Tryz.sizeOf3
  v3:=Tryz.zeroValue3
  t4:=Tryz.underlying4
  a4:=Tryz.isAgg4
  z4:=Tryz.sizeOf4
  v4:=Tryz.zeroValue4
  t9:=Tryz.underlying9
  a9:=Tryz.isAgg9
  z9:=Tryz.sizeOf9
  v9:=Tryz.zeroValue9
  t20:=Tryz.underlying20
  a20:=Tryz.isAgg20
  z20:=Tryz.sizeOf20
  v20:=Tryz.zeroValue20
  t22:=Tryz.underlying22
  a22:=Tryz.isAgg22
  z22:=Tryz.sizeOf22
  v22:=Tryz.zeroValue22}
end Go.Proofs
