/- The shelf's contracts at this seat: those that its texts name. No condition but what each says. -/
import Derived.Shelf.Strings.Builder1
import Derived.Shelf.Strings.Builder2
import Derived.Shelf.Strings.OnBuilder
import Derived.Shelf.Small.Utf8
import Derived.Shelf.Small.Strs
import Derived.Shelf.Strings.BuilderF
import Derived.Shelf.Strings.BuilderK
import Derived.Shelf.Strings.BuilderRune
import Derived.Shelf.Utf8.AppendRune
import Derived.Shelf.Utf8.AppendRunePlain
import Derived.Shelf.Utf8.RuneCount
import Derived.Shelf.Strings.Builder2Cap
import Derived.Shelf.Strconv.Itoa0
import Derived.Shelf.Strconv.Itoa1
import Derived.Shelf.LaysM
import Derived.Shelf.Strconv.Itoa2
import Derived.Shelf.Strconv.Itoa3
import Derived.Shelf.Strconv.Clone
import Derived.Shelf.Strconv.SyntaxError
import Derived.Shelf.Strconv.Lower
import Derived.Shelf.Strconv.RangeError
import Derived.Shelf.LaysC
import Derived.Shelf.Strconv.ToErrorRange
import Derived.Ground.MpProg
import Derived.Shelf.Pu.ParseUintPublic10
import Derived.Shelf.Pu.ErrVarParseUint
import Derived.Shelf.Strings.Search1
import Derived.Shelf.Strings.Search2
import Derived.Shelf.Strings.Search3
import Derived.Shelf.Strings.Count
import Derived.Shelf.Strings.Shaped
import Derived.Shelf.Strings.Split
import Derived.Shelf.Strings.SplitShaped
import Derived.Shelf.Unicode.Decode
import Derived.Shelf.Strings.Runes
import Derived.Shelf.Strings.RuneCount
import Derived.Shelf.Strings.Explode
import Derived.Shelf.Unicode.DecodeSlow
import Derived.Shelf.Unicode.DecodeAny
import Derived.Shelf.Strings.BuilderCap
import Derived.Shelf.Unicode.ValidAny
import Derived.Shelf.SlicesE.Reverse
import Derived.Ground.SlgnProg
import Derived.Shelf.Spec.SlicesGrow
import Derived.Ground.Names8Prog
import Derived.Test.YtokmjjkbginodaaGreatDoorProg
namespace Go.Proofs
open Go.Shelf
def Tryz.lays169_ren:Go.Shelf.Ren:=⟨fun|169=>220|n=>n,fun|70=>275|9=>9|0=>0|72=>277|37=>22|127=>304|3=>3|5=>5|n=>n,fun|n=>n⟩
theorem Tryz.lays169:Go.Proofs.Lays.n169 Tryz.prog Tryz.lays169_ren:={
  mixed:=by kernel_rfl
  f169:=Tryz.func220.trans (congrArg some (by kernel_rfl))
  t0:=Tryz.underlying0
  a0:=Tryz.isAgg0
  z0:=Tryz.sizeOf0
  v0:=Tryz.zeroValue0
  t3:=Tryz.underlying3
  a3:=Tryz.isAgg3
  z3:=Tryz.sizeOf3
  v3:=Tryz.zeroValue3
  t9:=Tryz.underlying9
  a9:=Tryz.isAgg9
  z9:=Tryz.sizeOf9
  v9:=Tryz.zeroValue9
  t37:=Tryz.underlying22
  a37:=Tryz.isAgg22
  z37:=Tryz.sizeOf22
  v37:=Tryz.zeroValue22
  t70:=Tryz.underlying275
  a70:=Tryz.isAgg275
  z70:=Tryz.sizeOf275
  v70:=Tryz.zeroValue275
  t72:=Tryz.underlying277
  a72:=Tryz.isAgg277
  z72:=Tryz.sizeOf277
  v72:=Tryz.zeroValue277
  t127:=Tryz.underlying304
  a127:=Tryz.isAgg304
  z127:=Tryz.sizeOf304
  v127:=Tryz.zeroValue304}
theorem Tryz.Builder_Extra_169:Builder.Extra Tryz.prog Tryz.lays169_ren:={
  sizeBuilder:=by kernel_rfl
  liesBuilder:=by kernel_rfl
  t5:=Tryz.underlying5
  a5:=Tryz.isAgg5
  z5:=Tryz.sizeOf5
  v5:=Tryz.zeroValue5
  infoByte:=by kernel_rfl
  cellsByte:=by kernel_rfl
  sizeByte:=by kernel_rfl
  neB5:=by decide}
def Tryz.lays156_ren:Go.Shelf.Ren:=⟨fun|156=>208|165=>225|166=>226|169=>220|240=>245|241=>247|276=>261|277=>263|n=>n,fun|31=>242|9=>9|3=>3|4=>4|0=>0|20=>20|72=>277|76=>281|70=>275|37=>22|75=>245|127=>304|164=>316|5=>5|80=>283|n=>n,fun|n=>n⟩
theorem Tryz.lays156:Go.Proofs.Lays.n156 Tryz.prog Tryz.lays156_ren:={
  mixed:=by kernel_rfl
  f156:=Tryz.func208.trans (congrArg some (by kernel_rfl))
  f165:=Tryz.func225.trans (congrArg some (by kernel_rfl))
  f166:=Tryz.func226.trans (congrArg some (by kernel_rfl))
  f169:=Tryz.func220.trans (congrArg some (by kernel_rfl))
  f240:=Tryz.func245.trans (congrArg some (by kernel_rfl))
  f241:=Tryz.func247.trans (congrArg some (by kernel_rfl))
  f276:=Tryz.func261.trans (congrArg some (by kernel_rfl))
  f277:=Tryz.func263.trans (congrArg some (by kernel_rfl))
  t0:=Tryz.underlying0
  a0:=Tryz.isAgg0
  z0:=Tryz.sizeOf0
  v0:=Tryz.zeroValue0
  t3:=Tryz.underlying3
  a3:=Tryz.isAgg3
  z3:=Tryz.sizeOf3
  v3:=Tryz.zeroValue3
  t4:=Tryz.underlying4
  a4:=Tryz.isAgg4
  z4:=Tryz.sizeOf4
  v4:=Tryz.zeroValue4
  t9:=Tryz.underlying9
  a9:=Tryz.isAgg9
  z9:=Tryz.sizeOf9
  v9:=Tryz.zeroValue9
  t20:=Tryz.underlying20
  a20:=Tryz.isAgg20
  z20:=Tryz.sizeOf20
  v20:=Tryz.zeroValue20
  t31:=Tryz.underlying242
  a31:=Tryz.isAgg242
  z31:=Tryz.sizeOf242
  v31:=Tryz.zeroValue242
  t37:=Tryz.underlying22
  a37:=Tryz.isAgg22
  z37:=Tryz.sizeOf22
  v37:=Tryz.zeroValue22
  t70:=Tryz.underlying275
  a70:=Tryz.isAgg275
  z70:=Tryz.sizeOf275
  v70:=Tryz.zeroValue275
  t72:=Tryz.underlying277
  a72:=Tryz.isAgg277
  z72:=Tryz.sizeOf277
  v72:=Tryz.zeroValue277
  t75:=Tryz.underlying245
  a75:=Tryz.isAgg245
  z75:=Tryz.sizeOf245
  v75:=Tryz.zeroValue245
  t76:=Tryz.underlying281
  a76:=Tryz.isAgg281
  z76:=Tryz.sizeOf281
  v76:=Tryz.zeroValue281
  t127:=Tryz.underlying304
  a127:=Tryz.isAgg304
  z127:=Tryz.sizeOf304
  v127:=Tryz.zeroValue304
  t164:=Tryz.underlying316
  a164:=Tryz.isAgg316
  z164:=Tryz.sizeOf316
  v164:=Tryz.zeroValue316}
theorem Tryz.Builder_Extra_156:Builder.Extra Tryz.prog Tryz.lays156_ren:={
  sizeBuilder:=by kernel_rfl
  liesBuilder:=by kernel_rfl
  t5:=Tryz.underlying5
  a5:=Tryz.isAgg5
  z5:=Tryz.sizeOf5
  v5:=Tryz.zeroValue5
  infoByte:=by kernel_rfl
  cellsByte:=by kernel_rfl
  sizeByte:=by kernel_rfl
  neB5:=by decide}
open Go.RowKit in
theorem Tryz.strings_Join (bk o c:Nat) (xs:List ByteArray) (sep:ByteArray) (w:World) (hcells:∀(j:Nat) x,xs[j]?=some x→w.cell? ⟨bk,o+j,none⟩=some (.string x)) (hbk:bk<w.heap.size) (hN:xs.length≤140737488355328) (hcap:xs.length≤c) (hlen:(Lib.join (xs.map (·.data.toList)) sep.data.toList).length≤140737488355328):
    Calls Tryz.prog 208 #[.slice (some ⟨bk,o,none⟩) xs.length c,.string sep] w fun e w'=>e= .returned (.string ⟨(Lib.join (xs.map (·.data.toList)) sep.data.toList).toArray⟩)∧Below w.heap.size w w':=Any.strings_Join Tryz.lays156 Tryz.Builder_Extra_156 bk o c xs sep w hcells hbk hN hcap hlen
def Tryz.lays119_ren:Go.Shelf.Ren:=⟨fun|119=>192|n=>n,fun|21=>21|4=>4|n=>n,fun|n=>n⟩
theorem Tryz.lays119:Go.Proofs.Lays.n119 Tryz.prog Tryz.lays119_ren:={
  mixed:=by kernel_rfl
  f119:=Tryz.func192.trans (congrArg some (by kernel_rfl))
  t4:=Tryz.underlying4
  a4:=Tryz.isAgg4
  z4:=Tryz.sizeOf4
  v4:=Tryz.zeroValue4
  t21:=Tryz.underlying21
  a21:=Tryz.isAgg21
  z21:=Tryz.sizeOf21
  v21:=Tryz.zeroValue21}
theorem Tryz.utf8_ValidRune (r:Int) (w:World):
    Calls Tryz.prog 192 #[.int .i32 r] w fun e w'=>e= .returned (.bool (Lib.validRune r))∧w'=w:=Any.utf8_ValidRune Tryz.lays119 r w
def Tryz.lays137_ren:Go.Shelf.Ren:=⟨fun|137=>241|217=>260|266=>269|n=>n,fun|9=>9|5=>5|3=>3|n=>n,fun|n=>n⟩
theorem Tryz.lays137:Go.Proofs.Lays.n137 Tryz.prog Tryz.lays137_ren:={
  mixed:=by kernel_rfl
  f137:=Tryz.func241.trans (congrArg some (by kernel_rfl))
  f217:=Tryz.func260.trans (congrArg some (by kernel_rfl))
  f266:=Tryz.func269.trans (congrArg some (by kernel_rfl))
  t3:=Tryz.underlying3
  a3:=Tryz.isAgg3
  z3:=Tryz.sizeOf3
  v3:=Tryz.zeroValue3
  t5:=Tryz.underlying5
  a5:=Tryz.isAgg5
  z5:=Tryz.sizeOf5
  v5:=Tryz.zeroValue5
  t9:=Tryz.underlying9
  a9:=Tryz.isAgg9
  z9:=Tryz.sizeOf9
  v9:=Tryz.zeroValue9}
open Go.RowKit in
theorem Tryz.strings_IndexByte (s:ByteArray) (c:Int) (w:World):
    Calls Tryz.prog 241 #[.string s,.int .u8 c] w fun e w'=>e= .returned (.int .i64 (Lib.indexByte s.data.toList c.toNat.toUInt8))∧w'=w:=Any.strings_IndexByte Tryz.lays137 s c w
open Go.RowKit in
theorem Tryz.Builder_String_any_k (B b:Nat) (l:List UInt8) (w:World) (h:Lib.IsBuilderF 277 5 B b (Lib.byteCells l) w) (hBw:B≤w.heap.size):
    Calls Tryz.prog 220 #[.pointer (some ⟨b,0,none⟩)] w fun e w'=>e= .returned (.string ⟨l.toArray⟩)∧(Lib.IsBuilderF 277 5 B b (Lib.byteCells l) w'∧Below B w w'∧Lib.OthersKept 5 (some b) w w'):=Any.Builder_String_any_k Tryz.lays169 Tryz.Builder_Extra_169 B b l w h hBw
def Tryz.lays242_ren:Go.Shelf.Ren:=⟨fun|242=>246|278=>262|n=>n,fun|37=>22|21=>21|51=>212|4=>4|5=>5|46=>137|n=>n,fun|n=>n⟩
theorem Tryz.lays242:Go.Proofs.Lays.n242 Tryz.prog Tryz.lays242_ren:={
  mixed:=by kernel_rfl
  f242:=Tryz.func246.trans (congrArg some (by kernel_rfl))
  f278:=Tryz.func262.trans (congrArg some (by kernel_rfl))
  t4:=Tryz.underlying4
  a4:=Tryz.isAgg4
  z4:=Tryz.sizeOf4
  v4:=Tryz.zeroValue4
  t5:=Tryz.underlying5
  a5:=Tryz.isAgg5
  z5:=Tryz.sizeOf5
  v5:=Tryz.zeroValue5
  t21:=Tryz.underlying21
  a21:=Tryz.isAgg21
  z21:=Tryz.sizeOf21
  v21:=Tryz.zeroValue21
  t37:=Tryz.underlying22
  a37:=Tryz.isAgg22
  z37:=Tryz.sizeOf22
  v37:=Tryz.zeroValue22
  t46:=Tryz.underlying137
  a46:=Tryz.isAgg137
  z46:=Tryz.sizeOf137
  v46:=Tryz.zeroValue137
  t51:=Tryz.underlying212
  a51:=Tryz.isAgg212
  z51:=Tryz.sizeOf212
  v51:=Tryz.zeroValue212}
open Go.RowKit in
theorem Tryz.utf8_AppendRune_plain (B:Nat) (v:Value) (n:Nat) (xs:List Value) (r:Int) (hr0: -2147483648≤r) (hr1:r≤2147483647) (w:World) (hown:w.ownsRow B 5 1 v n xs) (hlen:n+4≤140737488355328) (hBw:B≤w.heap.size):
    Calls Tryz.prog 246 #[v,.int .i32 r] w fun e w'=>∃v',e= .returned v'∧w'.ownsRow B 5 1 v' (n+(Lib.runeCells r).length) (xs++Lib.runeCells r)∧∃o,(w.alloc o).grownBy w' v.ownBlock:=Any.utf8_AppendRune_plain Tryz.lays242 (by kernel_rfl) B v n xs r hr0 hr1 w hown hlen hBw
def Tryz.lays195_ren:Go.Shelf.Ren:=⟨fun|195=>248|n=>n,fun|9=>9|3=>3|0=>0|4=>4|n=>n,fun|n=>n⟩
theorem Tryz.lays195:Go.Proofs.Lays.n195 Tryz.prog Tryz.lays195_ren:={
  mixed:=by kernel_rfl
  f195:=Tryz.func248.trans (congrArg some (by kernel_rfl))
  t0:=Tryz.underlying0
  a0:=Tryz.isAgg0
  z0:=Tryz.sizeOf0
  v0:=Tryz.zeroValue0
  t3:=Tryz.underlying3
  a3:=Tryz.isAgg3
  z3:=Tryz.sizeOf3
  v3:=Tryz.zeroValue3
  t4:=Tryz.underlying4
  a4:=Tryz.isAgg4
  z4:=Tryz.sizeOf4
  v4:=Tryz.zeroValue4
  t9:=Tryz.underlying9
  a9:=Tryz.isAgg9
  z9:=Tryz.sizeOf9
  v9:=Tryz.zeroValue9}
open Go.RowKit in
theorem Tryz.utf8_RuneCountInString (s:ByteArray) (w:World) (hs:s.size<9223372036854775807):
    Calls Tryz.prog 248 #[.string s] w fun e w'=>e= .returned (.int .i64 (Lib.runeCount s))∧∃pos,w'=w.iter s pos:=Any.utf8_RuneCountInString Tryz.lays195 s w hs
def Tryz.lays283_ren:Go.Shelf.Ren:=⟨fun|283=>237|n=>n,fun|3=>3|9=>9|4=>4|n=>n,fun|n=>n⟩
theorem Tryz.lays283:Go.Proofs.Lays.n283 Tryz.prog Tryz.lays283_ren:={
  mixed:=by kernel_rfl
  f283:=Tryz.func237.trans (congrArg some (by kernel_rfl))
  t3:=Tryz.underlying3
  a3:=Tryz.isAgg3
  z3:=Tryz.sizeOf3
  v3:=Tryz.zeroValue3
  t4:=Tryz.underlying4
  a4:=Tryz.isAgg4
  z4:=Tryz.sizeOf4
  v4:=Tryz.zeroValue4
  t9:=Tryz.underlying9
  a9:=Tryz.isAgg9
  z9:=Tryz.sizeOf9
  v9:=Tryz.zeroValue9}
open Go.Lib in
theorem Tryz.internal_strconv_small (i:Nat) (h:i<100) (w:World):
    Calls Tryz.prog 237 #[.int .i64 i] w fun e w'=>e= .returned (.string ⟨(Lib.decDigits i).toArray⟩)∧w'=w:=Any.internal_strconv_small Tryz.lays283 i h w
def Tryz.laysM284_ren:Go.Shelf.Ren:=⟨fun|284=>238|129=>256|317=>255|318=>257|n=>n,fun|53=>187|3=>3|212=>313|0=>0|4=>4|46=>137|5=>5|9=>9|n=>n,fun|17=>4|n=>n⟩
theorem Tryz.laysM284:Go.Proofs.LaysM.n284 Tryz.prog Tryz.laysM284_ren:={
  mixed:=by kernel_rfl
  f129:=Tryz.func256.trans (congrArg some (by kernel_rfl))
  f284:=Tryz.func238.trans (congrArg some (by kernel_rfl))
  f317:=Tryz.func255.trans (congrArg some (by kernel_rfl))
  f318:=Tryz.func257.trans (congrArg some (by kernel_rfl))
  t0:=Tryz.underlying0
  a0:=Tryz.isAgg0
  z0:=Tryz.sizeOf0
  v0:=Tryz.zeroValue0
  t3:=Tryz.underlying3
  a3:=Tryz.isAgg3
  z3:=Tryz.sizeOf3
  v3:=Tryz.zeroValue3
  t4:=Tryz.underlying4
  a4:=Tryz.isAgg4
  z4:=Tryz.sizeOf4
  v4:=Tryz.zeroValue4
  t5:=Tryz.underlying5
  a5:=Tryz.isAgg5
  z5:=Tryz.sizeOf5
  v5:=Tryz.zeroValue5
  t9:=Tryz.underlying9
  a9:=Tryz.isAgg9
  z9:=Tryz.sizeOf9
  v9:=Tryz.zeroValue9
  t46:=Tryz.underlying137
  a46:=Tryz.isAgg137
  z46:=Tryz.sizeOf137
  v46:=Tryz.zeroValue137
  t53:=Tryz.underlying187
  a53:=Tryz.isAgg187
  z53:=Tryz.sizeOf187
  v53:=Tryz.zeroValue187
  t212:=Tryz.underlying313
  a212:=Tryz.isAgg313
  z212:=Tryz.sizeOf313
  v212:=Tryz.zeroValue313
  g17:=by kernel_rfl
  i0:=by kernel_rfl
  i3:=by kernel_rfl
  i4:=by kernel_rfl
  i5:=by kernel_rfl
  i9:=by kernel_rfl
  i46:=by kernel_rfl
  i53:=by kernel_rfl
  i212:=by kernel_rfl
  m17:=by kernel_rfl}
open Go.Lib in
theorem Tryz.internal_strconv_numDigits (u:Nat) (h1:1≤u) (h2:u<18446744073709551616) (w:World) (htab:Lib.TabIs Tryz.prog w "internal/strconv.uint64pow10" .u64 Lib.pow10Tab):
    Calls Tryz.prog 238 #[.int .u64 u] w fun e w'=>e= .returned (.int .i64 (Lib.nDigits u))∧w'=w:=Any.internal_strconv_numDigits Tryz.laysM284 u h1 h2 w htab
def Tryz.lays285_ren:Go.Shelf.Ren:=⟨fun|285=>239|n=>n,fun|37=>22|53=>187|3=>3|4=>4|51=>212|9=>9|5=>5|0=>0|n=>n,fun|n=>n⟩
theorem Tryz.lays285:Go.Proofs.Lays.n285 Tryz.prog Tryz.lays285_ren:={
  mixed:=by kernel_rfl
  f285:=Tryz.func239.trans (congrArg some (by kernel_rfl))
  t0:=Tryz.underlying0
  a0:=Tryz.isAgg0
  z0:=Tryz.sizeOf0
  v0:=Tryz.zeroValue0
  t3:=Tryz.underlying3
  a3:=Tryz.isAgg3
  z3:=Tryz.sizeOf3
  v3:=Tryz.zeroValue3
  t4:=Tryz.underlying4
  a4:=Tryz.isAgg4
  z4:=Tryz.sizeOf4
  v4:=Tryz.zeroValue4
  t5:=Tryz.underlying5
  a5:=Tryz.isAgg5
  z5:=Tryz.sizeOf5
  v5:=Tryz.zeroValue5
  t9:=Tryz.underlying9
  a9:=Tryz.isAgg9
  z9:=Tryz.sizeOf9
  v9:=Tryz.zeroValue9
  t37:=Tryz.underlying22
  a37:=Tryz.isAgg22
  z37:=Tryz.sizeOf22
  v37:=Tryz.zeroValue22
  t51:=Tryz.underlying212
  a51:=Tryz.isAgg212
  z51:=Tryz.sizeOf212
  v51:=Tryz.zeroValue212
  t53:=Tryz.underlying187
  a53:=Tryz.isAgg187
  z53:=Tryz.sizeOf187
  v53:=Tryz.zeroValue187}
open Go.RowKit Go.Sort Go.Lib in
theorem Tryz.internal_strconv_formatBase10 (blk off cap:Nat) (u:Nat) (d:Array UInt8) (w:World) (hH:Holds (fun(b:UInt8)=>Value.int .u8 (b.toNat:Int)) w blk off d) (hu:u<10^d.size) (hu64:u<18446744073709551616) (hsz:d.size<4611686018427387904):
    Calls Tryz.prog 239 #[.slice (some ⟨blk,off,none⟩) d.size cap,.int .u64 u] w fun e w'=>
      e= .returned (.tuple #[])∧∃(n v':Nat) (dk:Array UInt8),w'=(putRow (fun(b:UInt8)=>Value.int .u8 (b.toNat:Int)) w blk off dk).drewN n∧FmtInv d.size u 0 v' dk:=Any.internal_strconv_formatBase10 Tryz.lays285 blk off cap u d w hH hu hu64 hsz
def Tryz.laysPu14_ren:Go.Shelf.Ren:=⟨fun|14=>183|16=>212|17=>213|19=>231|20=>232|21=>233|22=>234|23=>235|24=>236|25=>252|27=>254|26=>253|28=>266|29=>271|30=>237|31=>238|32=>239|33=>240|35=>256|34=>255|36=>257|37=>258|38=>259|39=>267|40=>268|n=>n,fun|9=>9|3=>3|22=>187|24=>245|25=>246|4=>4|34=>291|5=>5|36=>137|37=>22|0=>0|39=>293|21=>21|44=>310|47=>304|50=>320|48=>318|2=>2|52=>297|55=>300|59=>313|60=>212|20=>20|61=>314|65=>325|66=>326|67=>283|n=>n,fun|0=>2|1=>3|2=>4|3=>6|4=>7|n=>n⟩
theorem Tryz.laysPu14:Go.Proofs.LaysPu.n14 Tryz.prog Tryz.laysPu14_ren:={
  mixed:=by kernel_rfl
  f14:=Tryz.func183.trans (congrArg some (by kernel_rfl))
  f16:=Tryz.func212.trans (congrArg some (by kernel_rfl))
  f17:=Tryz.func213.trans (congrArg some (by kernel_rfl))
  f19:=Tryz.func231.trans (congrArg some (by kernel_rfl))
  f20:=Tryz.func232.trans (congrArg some (by kernel_rfl))
  f21:=Tryz.func233.trans (congrArg some (by kernel_rfl))
  f22:=Tryz.func234.trans (congrArg some (by kernel_rfl))
  f23:=Tryz.func235.trans (congrArg some (by kernel_rfl))
  f24:=Tryz.func236.trans (congrArg some (by kernel_rfl))
  f25:=Tryz.func252.trans (congrArg some (by kernel_rfl))
  f26:=Tryz.func253.trans (congrArg some (by kernel_rfl))
  f27:=Tryz.func254.trans (congrArg some (by kernel_rfl))
  f28:=Tryz.func266.trans (congrArg some (by kernel_rfl))
  f29:=Tryz.func271.trans (congrArg some (by kernel_rfl))
  f30:=Tryz.func237.trans (congrArg some (by kernel_rfl))
  f31:=Tryz.func238.trans (congrArg some (by kernel_rfl))
  f32:=Tryz.func239.trans (congrArg some (by kernel_rfl))
  f33:=Tryz.func240.trans (congrArg some (by kernel_rfl))
  f34:=Tryz.func255.trans (congrArg some (by kernel_rfl))
  f35:=Tryz.func256.trans (congrArg some (by kernel_rfl))
  f36:=Tryz.func257.trans (congrArg some (by kernel_rfl))
  f37:=Tryz.func258.trans (congrArg some (by kernel_rfl))
  f38:=Tryz.func259.trans (congrArg some (by kernel_rfl))
  f39:=Tryz.func267.trans (congrArg some (by kernel_rfl))
  f40:=Tryz.func268.trans (congrArg some (by kernel_rfl))
  t0:=Tryz.underlying0
  a0:=Tryz.isAgg0
  z0:=Tryz.sizeOf0
  v0:=Tryz.zeroValue0
  i0:=by kernel_rfl
  t2:=Tryz.underlying2
  a2:=Tryz.isAgg2
  z2:=Tryz.sizeOf2
  v2:=Tryz.zeroValue2
  i2:=by kernel_rfl
  t3:=Tryz.underlying3
  a3:=Tryz.isAgg3
  z3:=Tryz.sizeOf3
  v3:=Tryz.zeroValue3
  i3:=by kernel_rfl
  t4:=Tryz.underlying4
  a4:=Tryz.isAgg4
  z4:=Tryz.sizeOf4
  v4:=Tryz.zeroValue4
  i4:=by kernel_rfl
  t5:=Tryz.underlying5
  a5:=Tryz.isAgg5
  z5:=Tryz.sizeOf5
  v5:=Tryz.zeroValue5
  i5:=by kernel_rfl
  t9:=Tryz.underlying9
  a9:=Tryz.isAgg9
  z9:=Tryz.sizeOf9
  v9:=Tryz.zeroValue9
  i9:=by kernel_rfl
  t20:=Tryz.underlying20
  a20:=Tryz.isAgg20
  z20:=Tryz.sizeOf20
  v20:=Tryz.zeroValue20
  i20:=by kernel_rfl
  t21:=Tryz.underlying21
  a21:=Tryz.isAgg21
  z21:=Tryz.sizeOf21
  v21:=Tryz.zeroValue21
  i21:=by kernel_rfl
  t22:=Tryz.underlying187
  a22:=Tryz.isAgg187
  z22:=Tryz.sizeOf187
  v22:=Tryz.zeroValue187
  i22:=by kernel_rfl
  t24:=Tryz.underlying245
  a24:=Tryz.isAgg245
  z24:=Tryz.sizeOf245
  v24:=Tryz.zeroValue245
  i24:=by kernel_rfl
  t25:=Tryz.underlying246
  a25:=Tryz.isAgg246
  z25:=Tryz.sizeOf246
  v25:=Tryz.zeroValue246
  i25:=by kernel_rfl
  t34:=Tryz.underlying291
  a34:=Tryz.isAgg291
  z34:=Tryz.sizeOf291
  v34:=Tryz.zeroValue291
  i34:=by kernel_rfl
  c34:=by kernel_rfl
  t36:=Tryz.underlying137
  a36:=Tryz.isAgg137
  z36:=Tryz.sizeOf137
  v36:=Tryz.zeroValue137
  i36:=by kernel_rfl
  t37:=Tryz.underlying22
  a37:=Tryz.isAgg22
  z37:=Tryz.sizeOf22
  v37:=Tryz.zeroValue22
  i37:=by kernel_rfl
  t39:=Tryz.underlying293
  a39:=Tryz.isAgg293
  z39:=Tryz.sizeOf293
  v39:=Tryz.zeroValue293
  i39:=by kernel_rfl
  t44:=Tryz.underlying310
  a44:=Tryz.isAgg310
  z44:=Tryz.sizeOf310
  v44:=Tryz.zeroValue310
  i44:=by kernel_rfl
  t47:=Tryz.underlying304
  a47:=Tryz.isAgg304
  z47:=Tryz.sizeOf304
  v47:=Tryz.zeroValue304
  i47:=by kernel_rfl
  t48:=Tryz.underlying318
  a48:=Tryz.isAgg318
  z48:=Tryz.sizeOf318
  v48:=Tryz.zeroValue318
  i48:=by kernel_rfl
  t50:=Tryz.underlying320
  a50:=Tryz.isAgg320
  z50:=Tryz.sizeOf320
  v50:=Tryz.zeroValue320
  i50:=by kernel_rfl
  t52:=Tryz.underlying297
  a52:=Tryz.isAgg297
  z52:=Tryz.sizeOf297
  v52:=Tryz.zeroValue297
  i52:=by kernel_rfl
  t55:=Tryz.underlying300
  a55:=Tryz.isAgg300
  z55:=Tryz.sizeOf300
  v55:=Tryz.zeroValue300
  i55:=by kernel_rfl
  t59:=Tryz.underlying313
  a59:=Tryz.isAgg313
  z59:=Tryz.sizeOf313
  v59:=Tryz.zeroValue313
  i59:=by kernel_rfl
  t60:=Tryz.underlying212
  a60:=Tryz.isAgg212
  z60:=Tryz.sizeOf212
  v60:=Tryz.zeroValue212
  i60:=by kernel_rfl
  t61:=Tryz.underlying314
  a61:=Tryz.isAgg314
  z61:=Tryz.sizeOf314
  t65:=Tryz.underlying325
  a65:=Tryz.isAgg325
  z65:=Tryz.sizeOf325
  v65:=Tryz.zeroValue325
  i65:=by kernel_rfl
  t66:=Tryz.underlying326
  a66:=Tryz.isAgg326
  z66:=Tryz.sizeOf326
  v66:=Tryz.zeroValue326
  i66:=by kernel_rfl
  t67:=Tryz.underlying283
  a67:=Tryz.isAgg283
  z67:=Tryz.sizeOf283
  v67:=Tryz.zeroValue283
  i67:=by kernel_rfl
  g0:=by kernel_rfl
  m0:=by kernel_rfl
  g1:=by kernel_rfl
  m1:=by kernel_rfl
  g2:=by kernel_rfl
  m2:=by kernel_rfl
  g3:=by kernel_rfl
  m3:=by kernel_rfl
  g4:=by kernel_rfl
  m4:=by kernel_rfl}
open Go.RowKit in
theorem Tryz.strconv_ParseUint_10_at32_ok (s:ByteArray) (hmax:s.size≤9223372036854775806) (u:Nat) (h:Lib.parseUintB 32 s.data.toList= .ok u) (w:World):
    Calls Tryz.prog 183 #[.string s,.int .i64 10,.int .i64 32] w fun e w'=>e= .returned (.tuple #[.int .u64 u,.nilIface])∧(w'=w∨w'=Lib.bytesWorld w 5 s):=Any.strconv_ParseUint_10_at32_ok Tryz.laysPu14 s hmax u h w
open Go.RowKit in
theorem Tryz.strconv_ParseUint_10_at32_syntax (s:ByteArray) (hlim:s.size≤281474976710656) (h:Lib.parseUintB 32 s.data.toList=Lib.NumEnd.syntax) (ev:Value) (w:World) (hv:w.cell? ⟨2,0,none⟩=some ev) (hev:ev= .nilIface∨∃te pe,ev= .iface te pe):
    Calls Tryz.prog 183 #[.string s,.int .i64 10,.int .i64 32] w fun e w'=>∃N,e= .returned (.tuple #[.int .u64 0,.iface 293 (.pointer (some ⟨N,0,none⟩))])∧w.heap.size≤N∧w'.heap[N]?=some (.cells #[.string ⟨#[80,97,114,115,101,85,105,110,116]⟩,.string s,ev] 310 (0,0))∧Below w.heap.size w w':=Any.strconv_ParseUint_10_at32_syntax Tryz.laysPu14 s hlim h ev w hv hev
open Go.RowKit in
theorem Tryz.strconv_ParseUint_10_at32_range (s:ByteArray) (hlim:s.size≤281474976710656) (h:Lib.parseUintB 32 s.data.toList= .range) (ev:Value) (w:World) (hv:w.cell? ⟨3,0,none⟩=some ev) (hev:ev= .nilIface∨∃te pe,ev= .iface te pe):
    Calls Tryz.prog 183 #[.string s,.int .i64 10,.int .i64 32] w fun e w'=>∃N,e= .returned (.tuple #[.int .u64 4294967295,.iface 293 (.pointer (some ⟨N,0,none⟩))])∧w.heap.size≤N∧w'.heap[N]?=some (.cells #[.string ⟨#[80,97,114,115,101,85,105,110,116]⟩,.string s,ev] 310 (0,0))∧Below w.heap.size w w':=Any.strconv_ParseUint_10_at32_range Tryz.laysPu14 s hlim h ev w hv hev
def Tryz.lays146_ren:Go.Shelf.Ren:=⟨fun|146=>182|221=>211|268=>228|138=>229|143=>230|195=>248|197=>249|218=>250|219=>251|260=>264|217=>260|225=>243|224=>242|267=>265|266=>269|314=>270|n=>n,fun|9=>9|31=>242|3=>3|4=>4|0=>0|105=>306|21=>21|5=>5|46=>137|119=>270|139=>273|138=>272|146=>322|51=>212|n=>n,fun|1=>5|3=>0|4=>1|n=>n⟩
theorem Tryz.lays146:Go.Proofs.Lays.n146 Tryz.prog Tryz.lays146_ren:={
  mixed:=by kernel_rfl
  f138:=Tryz.func229.trans (congrArg some (by kernel_rfl))
  f143:=Tryz.func230.trans (congrArg some (by kernel_rfl))
  f146:=Tryz.func182.trans (congrArg some (by kernel_rfl))
  f195:=Tryz.func248.trans (congrArg some (by kernel_rfl))
  f197:=Tryz.func249.trans (congrArg some (by kernel_rfl))
  f217:=Tryz.func260.trans (congrArg some (by kernel_rfl))
  f218:=Tryz.func250.trans (congrArg some (by kernel_rfl))
  f219:=Tryz.func251.trans (congrArg some (by kernel_rfl))
  f221:=Tryz.func211.trans (congrArg some (by kernel_rfl))
  f224:=Tryz.func242.trans (congrArg some (by kernel_rfl))
  f225:=Tryz.func243.trans (congrArg some (by kernel_rfl))
  f260:=Tryz.func264.trans (congrArg some (by kernel_rfl))
  f266:=Tryz.func269.trans (congrArg some (by kernel_rfl))
  f267:=Tryz.func265.trans (congrArg some (by kernel_rfl))
  f268:=Tryz.func228.trans (congrArg some (by kernel_rfl))
  f314:=Tryz.func270.trans (congrArg some (by kernel_rfl))
  t0:=Tryz.underlying0
  a0:=Tryz.isAgg0
  z0:=Tryz.sizeOf0
  v0:=Tryz.zeroValue0
  t3:=Tryz.underlying3
  a3:=Tryz.isAgg3
  z3:=Tryz.sizeOf3
  v3:=Tryz.zeroValue3
  t4:=Tryz.underlying4
  a4:=Tryz.isAgg4
  z4:=Tryz.sizeOf4
  v4:=Tryz.zeroValue4
  t5:=Tryz.underlying5
  a5:=Tryz.isAgg5
  z5:=Tryz.sizeOf5
  v5:=Tryz.zeroValue5
  t9:=Tryz.underlying9
  a9:=Tryz.isAgg9
  z9:=Tryz.sizeOf9
  v9:=Tryz.zeroValue9
  t21:=Tryz.underlying21
  a21:=Tryz.isAgg21
  z21:=Tryz.sizeOf21
  v21:=Tryz.zeroValue21
  t31:=Tryz.underlying242
  a31:=Tryz.isAgg242
  z31:=Tryz.sizeOf242
  v31:=Tryz.zeroValue242
  t46:=Tryz.underlying137
  a46:=Tryz.isAgg137
  z46:=Tryz.sizeOf137
  v46:=Tryz.zeroValue137
  t51:=Tryz.underlying212
  a51:=Tryz.isAgg212
  z51:=Tryz.sizeOf212
  v51:=Tryz.zeroValue212
  t105:=Tryz.underlying306
  a105:=Tryz.isAgg306
  z105:=Tryz.sizeOf306
  v105:=Tryz.zeroValue306
  t119:=Tryz.underlying270
  a119:=Tryz.isAgg270
  z119:=Tryz.sizeOf270
  t138:=Tryz.underlying272
  a138:=Tryz.isAgg272
  z138:=Tryz.sizeOf272
  v138:=Tryz.zeroValue272
  t139:=Tryz.underlying273
  a139:=Tryz.isAgg273
  z139:=Tryz.sizeOf273
  v139:=Tryz.zeroValue273
  t146:=Tryz.underlying322
  a146:=Tryz.isAgg322
  z146:=Tryz.sizeOf322
  v146:=Tryz.zeroValue322
  g1:=by kernel_rfl
  g3:=by kernel_rfl
  g4:=by kernel_rfl}
open Go.RowKit Go.Lib in
theorem Tryz.strings_Split (s sep:ByteArray) (m:Int) (w:World) (hs:s.size<4294967281) (hm:w.cell? ⟨5,0,none⟩=some (.int .i64 m)) (h1:1≤sep.size):
    Calls Tryz.prog 182 #[.string s,.string sep] w fun e w'=>
      e= .returned (.slice (some ⟨w.heap.size,0,none⟩) (Lib.countB s sep+1) (Lib.countB s sep+1))∧w'=w.alloc (.cells ((Lib.splitB sep 0 (Lib.countB s sep) s).map Value.string).toArray 9):=Any.strings_Split Tryz.lays146 (by kernel_rfl) s sep m w hs hm h1
def Tryz.lays151_ren:Go.Shelf.Ren:=⟨fun|151=>189|152=>216|137=>241|119=>192|224=>242|225=>243|217=>260|266=>269|n=>n,fun|9=>9|21=>21|4=>4|3=>3|5=>5|0=>0|46=>137|n=>n,fun|n=>n⟩
theorem Tryz.lays151:Go.Proofs.Lays.n151 Tryz.prog Tryz.lays151_ren:={
  mixed:=by kernel_rfl
  f119:=Tryz.func192.trans (congrArg some (by kernel_rfl))
  f137:=Tryz.func241.trans (congrArg some (by kernel_rfl))
  f151:=Tryz.func189.trans (congrArg some (by kernel_rfl))
  f152:=Tryz.func216.trans (congrArg some (by kernel_rfl))
  f217:=Tryz.func260.trans (congrArg some (by kernel_rfl))
  f224:=Tryz.func242.trans (congrArg some (by kernel_rfl))
  f225:=Tryz.func243.trans (congrArg some (by kernel_rfl))
  f266:=Tryz.func269.trans (congrArg some (by kernel_rfl))
  t0:=Tryz.underlying0
  a0:=Tryz.isAgg0
  z0:=Tryz.sizeOf0
  v0:=Tryz.zeroValue0
  t3:=Tryz.underlying3
  a3:=Tryz.isAgg3
  z3:=Tryz.sizeOf3
  v3:=Tryz.zeroValue3
  t4:=Tryz.underlying4
  a4:=Tryz.isAgg4
  z4:=Tryz.sizeOf4
  v4:=Tryz.zeroValue4
  t5:=Tryz.underlying5
  a5:=Tryz.isAgg5
  z5:=Tryz.sizeOf5
  v5:=Tryz.zeroValue5
  t9:=Tryz.underlying9
  a9:=Tryz.isAgg9
  z9:=Tryz.sizeOf9
  v9:=Tryz.zeroValue9
  t21:=Tryz.underlying21
  a21:=Tryz.isAgg21
  z21:=Tryz.sizeOf21
  v21:=Tryz.zeroValue21
  t46:=Tryz.underlying137
  a46:=Tryz.isAgg137
  z46:=Tryz.sizeOf137
  v46:=Tryz.zeroValue137}
open Go.RowKit Go.Lib in
theorem Tryz.strings_ContainsRune_ascii (s:ByteArray) (r:Int) (w:World) (h0:0≤r) (h1:r<128):
    Calls Tryz.prog 189 #[.string s,.int .i32 r] w fun e w'=>e= .returned (.bool (decide (0≤Lib.indexByte s.data.toList r.toNat.toUInt8)))∧w'=w:=Any.strings_ContainsRune_ascii Tryz.lays151 s r w h0 h1
def Tryz.laysValid_ren:Go.Shelf.Ren:=⟨fun|196=>187|259=>215|n=>n,fun|9=>9|4=>4|3=>3|5=>5|12=>12|119=>270|0=>0|46=>137|139=>273|138=>272|53=>187|n=>n,fun|3=>0|4=>1|n=>n⟩
theorem Tryz.laysValid:Go.Proofs.Lays.n196 Tryz.prog Tryz.laysValid_ren:={
  mixed:=by kernel_rfl
  f196:=Tryz.func187.trans (congrArg some (by kernel_rfl))
  f259:=Tryz.func215.trans (congrArg some (by kernel_rfl))
  t0:=Tryz.underlying0
  a0:=Tryz.isAgg0
  z0:=Tryz.sizeOf0
  v0:=Tryz.zeroValue0
  t3:=Tryz.underlying3
  a3:=Tryz.isAgg3
  z3:=Tryz.sizeOf3
  v3:=Tryz.zeroValue3
  t4:=Tryz.underlying4
  a4:=Tryz.isAgg4
  z4:=Tryz.sizeOf4
  v4:=Tryz.zeroValue4
  t5:=Tryz.underlying5
  a5:=Tryz.isAgg5
  z5:=Tryz.sizeOf5
  v5:=Tryz.zeroValue5
  t9:=Tryz.underlying9
  a9:=Tryz.isAgg9
  z9:=Tryz.sizeOf9
  v9:=Tryz.zeroValue9
  t12:=Tryz.underlying12
  a12:=Tryz.isAgg12
  z12:=Tryz.sizeOf12
  v12:=Tryz.zeroValue12
  t46:=Tryz.underlying137
  a46:=Tryz.isAgg137
  z46:=Tryz.sizeOf137
  v46:=Tryz.zeroValue137
  t53:=Tryz.underlying187
  a53:=Tryz.isAgg187
  z53:=Tryz.sizeOf187
  v53:=Tryz.zeroValue187
  t119:=Tryz.underlying270
  a119:=Tryz.isAgg270
  z119:=Tryz.sizeOf270
  t138:=Tryz.underlying272
  a138:=Tryz.isAgg272
  z138:=Tryz.sizeOf272
  v138:=Tryz.zeroValue272
  t139:=Tryz.underlying273
  a139:=Tryz.isAgg273
  z139:=Tryz.sizeOf273
  v139:=Tryz.zeroValue273
  g3:=by kernel_rfl
  g4:=by kernel_rfl}
def Tryz.laysRev_ren:Go.Shelf.Ren:=⟨fun|35=>145|n=>n,fun|22=>22|23=>5|3=>3|4=>4|0=>0|n=>n,fun|n=>n⟩
theorem Tryz.laysRev:Go.Proofs.SlLaysE.n35 Tryz.prog Tryz.laysRev_ren:={
  mixed:=by kernel_rfl
  f35:=⟨Tryz.f145.name,by decide,Tryz.func145.trans (congrArg some (by kernel_rfl))⟩
  t0:=Tryz.underlying0
  a0:=Tryz.isAgg0
  z0:=Tryz.sizeOf0
  v0:=Tryz.zeroValue0
  t3:=Tryz.underlying3
  a3:=Tryz.isAgg3
  z3:=Tryz.sizeOf3
  v3:=Tryz.zeroValue3
  t4:=Tryz.underlying4
  a4:=Tryz.isAgg4
  z4:=Tryz.sizeOf4
  v4:=Tryz.zeroValue4
  t22:=Tryz.underlying22
  a22:=Tryz.isAgg22
  z22:=Tryz.sizeOf22
  v22:=Tryz.zeroValue22
  a23:=Tryz.isAgg5
  z23:=Tryz.sizeOf5}
def Tryz.laysGrow_ren:Go.Shelf.Ren:=⟨fun|4=>86|n=>n,fun|22=>22|25=>5|3=>3|4=>4|9=>9|20=>20|0=>0|n=>n,fun|n=>n⟩
theorem Tryz.laysGrow:Go.Proofs.Lays8.n4 Tryz.prog Tryz.laysGrow_ren:={
  mixed:=by kernel_rfl
  f4:=⟨Tryz.f86.name,by decide,Tryz.func86.trans (congrArg some (by kernel_rfl))⟩
  t0:=Tryz.underlying0
  a0:=Tryz.isAgg0
  z0:=Tryz.sizeOf0
  v0:=Tryz.zeroValue0
  t3:=Tryz.underlying3
  a3:=Tryz.isAgg3
  z3:=Tryz.sizeOf3
  v3:=Tryz.zeroValue3
  t4:=Tryz.underlying4
  a4:=Tryz.isAgg4
  z4:=Tryz.sizeOf4
  v4:=Tryz.zeroValue4
  t9:=Tryz.underlying9
  a9:=Tryz.isAgg9
  z9:=Tryz.sizeOf9
  v9:=Tryz.zeroValue9
  t20:=Tryz.underlying20
  a20:=Tryz.isAgg20
  z20:=Tryz.sizeOf20
  v20:=Tryz.zeroValue20
  t22:=Tryz.underlying22
  a22:=Tryz.isAgg22
  z22:=Tryz.sizeOf22
  v22:=Tryz.zeroValue22}
end Go.Proofs
