/- The shelf's contracts at this seat: those that its texts name. No condition but what each says. -/
import Derived.Shelf.Strings.Builder1
import Derived.Shelf.Strings.Builder2
import Derived.Shelf.Strings.OnBuilder
import Derived.Shelf.Small.Utf8
import Derived.Shelf.Small.Strs
import Derived.Shelf.Strings.BuilderF
import Derived.Shelf.Strings.BuilderK
import Derived.Shelf.Strings.BuilderRune
import Derived.Shelf.Utf8.AppendRune
import Derived.Shelf.Utf8.AppendRunePlain
import Derived.Shelf.Utf8.RuneCount
import Derived.Shelf.Strings.Builder2Cap
import Derived.Shelf.Strconv.Itoa0
import Derived.Shelf.Strconv.Itoa1
import Derived.Shelf.LaysM
import Derived.Shelf.Strconv.Itoa2
import Derived.Shelf.Strconv.Itoa3
import Derived.Shelf.Strconv.Clone
import Derived.Shelf.Strconv.SyntaxError
import Derived.Shelf.Strconv.Lower
import Derived.Shelf.Strconv.RangeError
import Derived.Shelf.LaysC
import Derived.Shelf.Strconv.ToErrorRange
import Derived.Ground.MpProg
import Derived.Shelf.Pu.ParseUintPublic10
import Derived.Shelf.Pu.ErrVarParseUint
import Derived.Shelf.Strings.Search1
import Derived.Shelf.Strings.Search2
import Derived.Shelf.Strings.Search3
import Derived.Shelf.Strings.Count
import Derived.Shelf.Strings.Shaped
import Derived.Shelf.Strings.Split
import Derived.Shelf.Strings.SplitShaped
import Derived.Shelf.Unicode.Decode
import Derived.Shelf.Strings.Runes
import Derived.Shelf.Strings.RuneCount
import Derived.Shelf.Strings.Explode
import Derived.Shelf.Unicode.DecodeSlow
import Derived.Shelf.Unicode.DecodeAny
import Derived.Shelf.Strings.BuilderCap
import Derived.Shelf.Unicode.ValidAny
import Derived.Shelf.SlicesE.Reverse
import Derived.Ground.SlgnProg
import Derived.Shelf.Spec.SlicesGrow
import Derived.Ground.Names8Prog
import Derived.Test.YtaoahmplnckhpaaGreatDoorProg
namespace Go.Proofs
open Go.Shelf
def Tryz.lays169_ren:Go.Shelf.Ren:=⟨fun|169=>225|n=>n,fun|70=>270|9=>9|0=>0|72=>272|37=>33|127=>299|3=>3|5=>5|n=>n,fun|n=>n⟩
theorem Tryz.lays169:Go.Proofs.Lays.n169 Tryz.prog Tryz.lays169_ren:={
  mixed:=by kernel_rfl
  f169:=Tryz.func225.trans (congrArg some (by kernel_rfl))
  t0:=Tryz.underlying0
  a0:=Tryz.isAgg0
  z0:=Tryz.sizeOf0
  v0:=Tryz.zeroValue0
  t3:=Tryz.underlying3
  a3:=Tryz.isAgg3
  z3:=Tryz.sizeOf3
  v3:=Tryz.zeroValue3
  t9:=Tryz.underlying9
  a9:=Tryz.isAgg9
  z9:=Tryz.sizeOf9
  v9:=Tryz.zeroValue9
  t37:=Tryz.underlying33
  a37:=Tryz.isAgg33
  z37:=Tryz.sizeOf33
  v37:=Tryz.zeroValue33
  t70:=Tryz.underlying270
  a70:=Tryz.isAgg270
  z70:=Tryz.sizeOf270
  v70:=Tryz.zeroValue270
  t72:=Tryz.underlying272
  a72:=Tryz.isAgg272
  z72:=Tryz.sizeOf272
  v72:=Tryz.zeroValue272
  t127:=Tryz.underlying299
  a127:=Tryz.isAgg299
  z127:=Tryz.sizeOf299
  v127:=Tryz.zeroValue299}
theorem Tryz.Builder_Extra_169:Builder.Extra Tryz.prog Tryz.lays169_ren:={
  sizeBuilder:=by kernel_rfl
  liesBuilder:=by kernel_rfl
  t5:=Tryz.underlying5
  a5:=Tryz.isAgg5
  z5:=Tryz.sizeOf5
  v5:=Tryz.zeroValue5
  infoByte:=by kernel_rfl
  cellsByte:=by kernel_rfl
  sizeByte:=by kernel_rfl
  neB5:=by decide}
def Tryz.lays156_ren:Go.Shelf.Ren:=⟨fun|156=>252|165=>271|166=>272|169=>225|240=>254|241=>281|276=>273|277=>284|n=>n,fun|31=>225|9=>9|3=>3|4=>4|0=>0|20=>20|72=>272|76=>276|70=>270|37=>33|75=>228|127=>299|164=>315|5=>5|80=>278|n=>n,fun|n=>n⟩
theorem Tryz.lays156:Go.Proofs.Lays.n156 Tryz.prog Tryz.lays156_ren:={
  mixed:=by kernel_rfl
  f156:=Tryz.func252.trans (congrArg some (by kernel_rfl))
  f165:=Tryz.func271.trans (congrArg some (by kernel_rfl))
  f166:=Tryz.func272.trans (congrArg some (by kernel_rfl))
  f169:=Tryz.func225.trans (congrArg some (by kernel_rfl))
  f240:=Tryz.func254.trans (congrArg some (by kernel_rfl))
  f241:=Tryz.func281.trans (congrArg some (by kernel_rfl))
  f276:=Tryz.func273.trans (congrArg some (by kernel_rfl))
  f277:=Tryz.func284.trans (congrArg some (by kernel_rfl))
  t0:=Tryz.underlying0
  a0:=Tryz.isAgg0
  z0:=Tryz.sizeOf0
  v0:=Tryz.zeroValue0
  t3:=Tryz.underlying3
  a3:=Tryz.isAgg3
  z3:=Tryz.sizeOf3
  v3:=Tryz.zeroValue3
  t4:=Tryz.underlying4
  a4:=Tryz.isAgg4
  z4:=Tryz.sizeOf4
  v4:=Tryz.zeroValue4
  t9:=Tryz.underlying9
  a9:=Tryz.isAgg9
  z9:=Tryz.sizeOf9
  v9:=Tryz.zeroValue9
  t20:=Tryz.underlying20
  a20:=Tryz.isAgg20
  z20:=Tryz.sizeOf20
  v20:=Tryz.zeroValue20
  t31:=Tryz.underlying225
  a31:=Tryz.isAgg225
  z31:=Tryz.sizeOf225
  v31:=Tryz.zeroValue225
  t37:=Tryz.underlying33
  a37:=Tryz.isAgg33
  z37:=Tryz.sizeOf33
  v37:=Tryz.zeroValue33
  t70:=Tryz.underlying270
  a70:=Tryz.isAgg270
  z70:=Tryz.sizeOf270
  v70:=Tryz.zeroValue270
  t72:=Tryz.underlying272
  a72:=Tryz.isAgg272
  z72:=Tryz.sizeOf272
  v72:=Tryz.zeroValue272
  t75:=Tryz.underlying228
  a75:=Tryz.isAgg228
  z75:=Tryz.sizeOf228
  v75:=Tryz.zeroValue228
  t76:=Tryz.underlying276
  a76:=Tryz.isAgg276
  z76:=Tryz.sizeOf276
  v76:=Tryz.zeroValue276
  t127:=Tryz.underlying299
  a127:=Tryz.isAgg299
  z127:=Tryz.sizeOf299
  v127:=Tryz.zeroValue299
  t164:=Tryz.underlying315
  a164:=Tryz.isAgg315
  z164:=Tryz.sizeOf315
  v164:=Tryz.zeroValue315}
theorem Tryz.Builder_Extra_156:Builder.Extra Tryz.prog Tryz.lays156_ren:={
  sizeBuilder:=by kernel_rfl
  liesBuilder:=by kernel_rfl
  t5:=Tryz.underlying5
  a5:=Tryz.isAgg5
  z5:=Tryz.sizeOf5
  v5:=Tryz.zeroValue5
  infoByte:=by kernel_rfl
  cellsByte:=by kernel_rfl
  sizeByte:=by kernel_rfl
  neB5:=by decide}
open Go.RowKit in
theorem Tryz.strings_Join (bk o c:Nat) (xs:List ByteArray) (sep:ByteArray) (w:World) (hcells:∀(j:Nat) x,xs[j]?=some x→w.cell? ⟨bk,o+j,none⟩=some (.string x)) (hbk:bk<w.heap.size) (hN:xs.length≤140737488355328) (hcap:xs.length≤c) (hlen:(Lib.join (xs.map (·.data.toList)) sep.data.toList).length≤140737488355328):
    Calls Tryz.prog 252 #[.slice (some ⟨bk,o,none⟩) xs.length c,.string sep] w fun e w'=>e= .returned (.string ⟨(Lib.join (xs.map (·.data.toList)) sep.data.toList).toArray⟩)∧Below w.heap.size w w':=Any.strings_Join Tryz.lays156 Tryz.Builder_Extra_156 bk o c xs sep w hcells hbk hN hcap hlen
def Tryz.lays119_ren:Go.Shelf.Ren:=⟨fun|119=>184|n=>n,fun|21=>21|4=>4|n=>n,fun|n=>n⟩
theorem Tryz.lays119:Go.Proofs.Lays.n119 Tryz.prog Tryz.lays119_ren:={
  mixed:=by kernel_rfl
  f119:=Tryz.func184.trans (congrArg some (by kernel_rfl))
  t4:=Tryz.underlying4
  a4:=Tryz.isAgg4
  z4:=Tryz.sizeOf4
  v4:=Tryz.zeroValue4
  t21:=Tryz.underlying21
  a21:=Tryz.isAgg21
  z21:=Tryz.sizeOf21
  v21:=Tryz.zeroValue21}
theorem Tryz.utf8_ValidRune (r:Int) (w:World):
    Calls Tryz.prog 184 #[.int .i32 r] w fun e w'=>e= .returned (.bool (Lib.validRune r))∧w'=w:=Any.utf8_ValidRune Tryz.lays119 r w
def Tryz.lays137_ren:Go.Shelf.Ren:=⟨fun|137=>249|217=>270|266=>280|n=>n,fun|9=>9|5=>5|3=>3|n=>n,fun|n=>n⟩
theorem Tryz.lays137:Go.Proofs.Lays.n137 Tryz.prog Tryz.lays137_ren:={
  mixed:=by kernel_rfl
  f137:=Tryz.func249.trans (congrArg some (by kernel_rfl))
  f217:=Tryz.func270.trans (congrArg some (by kernel_rfl))
  f266:=Tryz.func280.trans (congrArg some (by kernel_rfl))
  t3:=Tryz.underlying3
  a3:=Tryz.isAgg3
  z3:=Tryz.sizeOf3
  v3:=Tryz.zeroValue3
  t5:=Tryz.underlying5
  a5:=Tryz.isAgg5
  z5:=Tryz.sizeOf5
  v5:=Tryz.zeroValue5
  t9:=Tryz.underlying9
  a9:=Tryz.isAgg9
  z9:=Tryz.sizeOf9
  v9:=Tryz.zeroValue9}
open Go.RowKit in
theorem Tryz.strings_IndexByte (s:ByteArray) (c:Int) (w:World):
    Calls Tryz.prog 249 #[.string s,.int .u8 c] w fun e w'=>e= .returned (.int .i64 (Lib.indexByte s.data.toList c.toNat.toUInt8))∧w'=w:=Any.strings_IndexByte Tryz.lays137 s c w
open Go.RowKit in
theorem Tryz.Builder_String_any_k (B b:Nat) (l:List UInt8) (w:World) (h:Lib.IsBuilderF 272 5 B b (Lib.byteCells l) w) (hBw:B≤w.heap.size):
    Calls Tryz.prog 225 #[.pointer (some ⟨b,0,none⟩)] w fun e w'=>e= .returned (.string ⟨l.toArray⟩)∧(Lib.IsBuilderF 272 5 B b (Lib.byteCells l) w'∧Below B w w'∧Lib.OthersKept 5 (some b) w w'):=Any.Builder_String_any_k Tryz.lays169 Tryz.Builder_Extra_169 B b l w h hBw
def Tryz.lays242_ren:Go.Shelf.Ren:=⟨fun|242=>255|278=>274|n=>n,fun|37=>33|21=>21|51=>181|4=>4|5=>5|46=>141|n=>n,fun|n=>n⟩
theorem Tryz.lays242:Go.Proofs.Lays.n242 Tryz.prog Tryz.lays242_ren:={
  mixed:=by kernel_rfl
  f242:=Tryz.func255.trans (congrArg some (by kernel_rfl))
  f278:=Tryz.func274.trans (congrArg some (by kernel_rfl))
  t4:=Tryz.underlying4
  a4:=Tryz.isAgg4
  z4:=Tryz.sizeOf4
  v4:=Tryz.zeroValue4
  t5:=Tryz.underlying5
  a5:=Tryz.isAgg5
  z5:=Tryz.sizeOf5
  v5:=Tryz.zeroValue5
  t21:=Tryz.underlying21
  a21:=Tryz.isAgg21
  z21:=Tryz.sizeOf21
  v21:=Tryz.zeroValue21
  t37:=Tryz.underlying33
  a37:=Tryz.isAgg33
  z37:=Tryz.sizeOf33
  v37:=Tryz.zeroValue33
  t46:=Tryz.underlying141
  a46:=Tryz.isAgg141
  z46:=Tryz.sizeOf141
  v46:=Tryz.zeroValue141
  t51:=Tryz.underlying181
  a51:=Tryz.isAgg181
  z51:=Tryz.sizeOf181
  v51:=Tryz.zeroValue181}
open Go.RowKit in
theorem Tryz.utf8_AppendRune_plain (B:Nat) (v:Value) (n:Nat) (xs:List Value) (r:Int) (hr0: -2147483648≤r) (hr1:r≤2147483647) (w:World) (hown:w.ownsRow B 5 1 v n xs) (hlen:n+4≤140737488355328) (hBw:B≤w.heap.size):
    Calls Tryz.prog 255 #[v,.int .i32 r] w fun e w'=>∃v',e= .returned v'∧w'.ownsRow B 5 1 v' (n+(Lib.runeCells r).length) (xs++Lib.runeCells r)∧∃o,(w.alloc o).grownBy w' v.ownBlock:=Any.utf8_AppendRune_plain Tryz.lays242 (by kernel_rfl) B v n xs r hr0 hr1 w hown hlen hBw
def Tryz.lays195_ren:Go.Shelf.Ren:=⟨fun|195=>258|n=>n,fun|9=>9|3=>3|0=>0|4=>4|n=>n,fun|n=>n⟩
theorem Tryz.lays195:Go.Proofs.Lays.n195 Tryz.prog Tryz.lays195_ren:={
  mixed:=by kernel_rfl
  f195:=Tryz.func258.trans (congrArg some (by kernel_rfl))
  t0:=Tryz.underlying0
  a0:=Tryz.isAgg0
  z0:=Tryz.sizeOf0
  v0:=Tryz.zeroValue0
  t3:=Tryz.underlying3
  a3:=Tryz.isAgg3
  z3:=Tryz.sizeOf3
  v3:=Tryz.zeroValue3
  t4:=Tryz.underlying4
  a4:=Tryz.isAgg4
  z4:=Tryz.sizeOf4
  v4:=Tryz.zeroValue4
  t9:=Tryz.underlying9
  a9:=Tryz.isAgg9
  z9:=Tryz.sizeOf9
  v9:=Tryz.zeroValue9}
open Go.RowKit in
theorem Tryz.utf8_RuneCountInString (s:ByteArray) (w:World) (hs:s.size<9223372036854775807):
    Calls Tryz.prog 258 #[.string s] w fun e w'=>e= .returned (.int .i64 (Lib.runeCount s))∧∃pos,w'=w.iter s pos:=Any.utf8_RuneCountInString Tryz.lays195 s w hs
def Tryz.lays283_ren:Go.Shelf.Ren:=⟨fun|283=>245|n=>n,fun|3=>3|9=>9|4=>4|n=>n,fun|n=>n⟩
theorem Tryz.lays283:Go.Proofs.Lays.n283 Tryz.prog Tryz.lays283_ren:={
  mixed:=by kernel_rfl
  f283:=Tryz.func245.trans (congrArg some (by kernel_rfl))
  t3:=Tryz.underlying3
  a3:=Tryz.isAgg3
  z3:=Tryz.sizeOf3
  v3:=Tryz.zeroValue3
  t4:=Tryz.underlying4
  a4:=Tryz.isAgg4
  z4:=Tryz.sizeOf4
  v4:=Tryz.zeroValue4
  t9:=Tryz.underlying9
  a9:=Tryz.isAgg9
  z9:=Tryz.sizeOf9
  v9:=Tryz.zeroValue9}
open Go.Lib in
theorem Tryz.internal_strconv_small (i:Nat) (h:i<100) (w:World):
    Calls Tryz.prog 245 #[.int .i64 i] w fun e w'=>e= .returned (.string ⟨(Lib.decDigits i).toArray⟩)∧w'=w:=Any.internal_strconv_small Tryz.lays283 i h w
def Tryz.laysM284_ren:Go.Shelf.Ren:=⟨fun|284=>246|129=>266|317=>265|318=>267|n=>n,fun|53=>217|3=>3|212=>310|0=>0|4=>4|46=>141|5=>5|9=>9|n=>n,fun|17=>4|n=>n⟩
theorem Tryz.laysM284:Go.Proofs.LaysM.n284 Tryz.prog Tryz.laysM284_ren:={
  mixed:=by kernel_rfl
  f129:=Tryz.func266.trans (congrArg some (by kernel_rfl))
  f284:=Tryz.func246.trans (congrArg some (by kernel_rfl))
  f317:=Tryz.func265.trans (congrArg some (by kernel_rfl))
  f318:=Tryz.func267.trans (congrArg some (by kernel_rfl))
  t0:=Tryz.underlying0
  a0:=Tryz.isAgg0
  z0:=Tryz.sizeOf0
  v0:=Tryz.zeroValue0
  t3:=Tryz.underlying3
  a3:=Tryz.isAgg3
  z3:=Tryz.sizeOf3
  v3:=Tryz.zeroValue3
  t4:=Tryz.underlying4
  a4:=Tryz.isAgg4
  z4:=Tryz.sizeOf4
  v4:=Tryz.zeroValue4
  t5:=Tryz.underlying5
  a5:=Tryz.isAgg5
  z5:=Tryz.sizeOf5
  v5:=Tryz.zeroValue5
  t9:=Tryz.underlying9
  a9:=Tryz.isAgg9
  z9:=Tryz.sizeOf9
  v9:=Tryz.zeroValue9
  t46:=Tryz.underlying141
  a46:=Tryz.isAgg141
  z46:=Tryz.sizeOf141
  v46:=Tryz.zeroValue141
  t53:=Tryz.underlying217
  a53:=Tryz.isAgg217
  z53:=Tryz.sizeOf217
  v53:=Tryz.zeroValue217
  t212:=Tryz.underlying310
  a212:=Tryz.isAgg310
  z212:=Tryz.sizeOf310
  v212:=Tryz.zeroValue310
  g17:=by kernel_rfl
  i0:=by kernel_rfl
  i3:=by kernel_rfl
  i4:=by kernel_rfl
  i5:=by kernel_rfl
  i9:=by kernel_rfl
  i46:=by kernel_rfl
  i53:=by kernel_rfl
  i212:=by kernel_rfl
  m17:=by kernel_rfl}
open Go.Lib in
theorem Tryz.internal_strconv_numDigits (u:Nat) (h1:1≤u) (h2:u<18446744073709551616) (w:World) (htab:Lib.TabIs Tryz.prog w "internal/strconv.uint64pow10" .u64 Lib.pow10Tab):
    Calls Tryz.prog 246 #[.int .u64 u] w fun e w'=>e= .returned (.int .i64 (Lib.nDigits u))∧w'=w:=Any.internal_strconv_numDigits Tryz.laysM284 u h1 h2 w htab
def Tryz.lays285_ren:Go.Shelf.Ren:=⟨fun|285=>247|n=>n,fun|37=>33|53=>217|3=>3|4=>4|51=>181|9=>9|5=>5|0=>0|n=>n,fun|n=>n⟩
theorem Tryz.lays285:Go.Proofs.Lays.n285 Tryz.prog Tryz.lays285_ren:={
  mixed:=by kernel_rfl
  f285:=Tryz.func247.trans (congrArg some (by kernel_rfl))
  t0:=Tryz.underlying0
  a0:=Tryz.isAgg0
  z0:=Tryz.sizeOf0
  v0:=Tryz.zeroValue0
  t3:=Tryz.underlying3
  a3:=Tryz.isAgg3
  z3:=Tryz.sizeOf3
  v3:=Tryz.zeroValue3
  t4:=Tryz.underlying4
  a4:=Tryz.isAgg4
  z4:=Tryz.sizeOf4
  v4:=Tryz.zeroValue4
  t5:=Tryz.underlying5
  a5:=Tryz.isAgg5
  z5:=Tryz.sizeOf5
  v5:=Tryz.zeroValue5
  t9:=Tryz.underlying9
  a9:=Tryz.isAgg9
  z9:=Tryz.sizeOf9
  v9:=Tryz.zeroValue9
  t37:=Tryz.underlying33
  a37:=Tryz.isAgg33
  z37:=Tryz.sizeOf33
  v37:=Tryz.zeroValue33
  t51:=Tryz.underlying181
  a51:=Tryz.isAgg181
  z51:=Tryz.sizeOf181
  v51:=Tryz.zeroValue181
  t53:=Tryz.underlying217
  a53:=Tryz.isAgg217
  z53:=Tryz.sizeOf217
  v53:=Tryz.zeroValue217}
open Go.RowKit Go.Sort Go.Lib in
theorem Tryz.internal_strconv_formatBase10 (blk off cap:Nat) (u:Nat) (d:Array UInt8) (w:World) (hH:Holds (fun(b:UInt8)=>Value.int .u8 (b.toNat:Int)) w blk off d) (hu:u<10^d.size) (hu64:u<18446744073709551616) (hsz:d.size<4611686018427387904):
    Calls Tryz.prog 247 #[.slice (some ⟨blk,off,none⟩) d.size cap,.int .u64 u] w fun e w'=>
      e= .returned (.tuple #[])∧∃(n v':Nat) (dk:Array UInt8),w'=(putRow (fun(b:UInt8)=>Value.int .u8 (b.toNat:Int)) w blk off dk).drewN n∧FmtInv d.size u 0 v' dk:=Any.internal_strconv_formatBase10 Tryz.lays285 blk off cap u d w hH hu hu64 hsz
def Tryz.laysPu14_ren:Go.Shelf.Ren:=⟨fun|14=>176|16=>216|17=>217|19=>239|20=>240|21=>241|22=>242|23=>243|24=>244|25=>262|27=>264|26=>263|28=>277|29=>283|30=>245|31=>246|32=>247|33=>248|35=>266|34=>265|36=>267|37=>268|38=>269|39=>278|40=>279|n=>n,fun|9=>9|3=>3|22=>217|24=>228|25=>229|4=>4|34=>285|5=>5|36=>141|37=>33|0=>0|39=>287|21=>21|44=>307|47=>299|50=>319|48=>317|2=>2|52=>291|55=>294|59=>310|60=>181|20=>20|61=>311|65=>324|66=>325|67=>278|n=>n,fun|0=>2|1=>3|2=>4|3=>6|4=>7|n=>n⟩
theorem Tryz.laysPu14:Go.Proofs.LaysPu.n14 Tryz.prog Tryz.laysPu14_ren:={
  mixed:=by kernel_rfl
  f14:=Tryz.func176.trans (congrArg some (by kernel_rfl))
  f16:=Tryz.func216.trans (congrArg some (by kernel_rfl))
  f17:=Tryz.func217.trans (congrArg some (by kernel_rfl))
  f19:=Tryz.func239.trans (congrArg some (by kernel_rfl))
  f20:=Tryz.func240.trans (congrArg some (by kernel_rfl))
  f21:=Tryz.func241.trans (congrArg some (by kernel_rfl))
  f22:=Tryz.func242.trans (congrArg some (by kernel_rfl))
  f23:=Tryz.func243.trans (congrArg some (by kernel_rfl))
  f24:=Tryz.func244.trans (congrArg some (by kernel_rfl))
  f25:=Tryz.func262.trans (congrArg some (by kernel_rfl))
  f26:=Tryz.func263.trans (congrArg some (by kernel_rfl))
  f27:=Tryz.func264.trans (congrArg some (by kernel_rfl))
  f28:=Tryz.func277.trans (congrArg some (by kernel_rfl))
  f29:=Tryz.func283.trans (congrArg some (by kernel_rfl))
  f30:=Tryz.func245.trans (congrArg some (by kernel_rfl))
  f31:=Tryz.func246.trans (congrArg some (by kernel_rfl))
  f32:=Tryz.func247.trans (congrArg some (by kernel_rfl))
  f33:=Tryz.func248.trans (congrArg some (by kernel_rfl))
  f34:=Tryz.func265.trans (congrArg some (by kernel_rfl))
  f35:=Tryz.func266.trans (congrArg some (by kernel_rfl))
  f36:=Tryz.func267.trans (congrArg some (by kernel_rfl))
  f37:=Tryz.func268.trans (congrArg some (by kernel_rfl))
  f38:=Tryz.func269.trans (congrArg some (by kernel_rfl))
  f39:=Tryz.func278.trans (congrArg some (by kernel_rfl))
  f40:=Tryz.func279.trans (congrArg some (by kernel_rfl))
  t0:=Tryz.underlying0
  a0:=Tryz.isAgg0
  z0:=Tryz.sizeOf0
  v0:=Tryz.zeroValue0
  i0:=by kernel_rfl
  t2:=Tryz.underlying2
  a2:=Tryz.isAgg2
  z2:=Tryz.sizeOf2
  v2:=Tryz.zeroValue2
  i2:=by kernel_rfl
  t3:=Tryz.underlying3
  a3:=Tryz.isAgg3
  z3:=Tryz.sizeOf3
  v3:=Tryz.zeroValue3
  i3:=by kernel_rfl
  t4:=Tryz.underlying4
  a4:=Tryz.isAgg4
  z4:=Tryz.sizeOf4
  v4:=Tryz.zeroValue4
  i4:=by kernel_rfl
  t5:=Tryz.underlying5
  a5:=Tryz.isAgg5
  z5:=Tryz.sizeOf5
  v5:=Tryz.zeroValue5
  i5:=by kernel_rfl
  t9:=Tryz.underlying9
  a9:=Tryz.isAgg9
  z9:=Tryz.sizeOf9
  v9:=Tryz.zeroValue9
  i9:=by kernel_rfl
  t20:=Tryz.underlying20
  a20:=Tryz.isAgg20
  z20:=Tryz.sizeOf20
  v20:=Tryz.zeroValue20
  i20:=by kernel_rfl
  t21:=Tryz.underlying21
  a21:=Tryz.isAgg21
  z21:=Tryz.sizeOf21
  v21:=Tryz.zeroValue21
  i21:=by kernel_rfl
  t22:=Tryz.underlying217
  a22:=Tryz.isAgg217
  z22:=Tryz.sizeOf217
  v22:=Tryz.zeroValue217
  i22:=by kernel_rfl
  t24:=Tryz.underlying228
  a24:=Tryz.isAgg228
  z24:=Tryz.sizeOf228
  v24:=Tryz.zeroValue228
  i24:=by kernel_rfl
  t25:=Tryz.underlying229
  a25:=Tryz.isAgg229
  z25:=Tryz.sizeOf229
  v25:=Tryz.zeroValue229
  i25:=by kernel_rfl
  t34:=Tryz.underlying285
  a34:=Tryz.isAgg285
  z34:=Tryz.sizeOf285
  v34:=Tryz.zeroValue285
  i34:=by kernel_rfl
  c34:=by kernel_rfl
  t36:=Tryz.underlying141
  a36:=Tryz.isAgg141
  z36:=Tryz.sizeOf141
  v36:=Tryz.zeroValue141
  i36:=by kernel_rfl
  t37:=Tryz.underlying33
  a37:=Tryz.isAgg33
  z37:=Tryz.sizeOf33
  v37:=Tryz.zeroValue33
  i37:=by kernel_rfl
  t39:=Tryz.underlying287
  a39:=Tryz.isAgg287
  z39:=Tryz.sizeOf287
  v39:=Tryz.zeroValue287
  i39:=by kernel_rfl
  t44:=Tryz.underlying307
  a44:=Tryz.isAgg307
  z44:=Tryz.sizeOf307
  v44:=Tryz.zeroValue307
  i44:=by kernel_rfl
  t47:=Tryz.underlying299
  a47:=Tryz.isAgg299
  z47:=Tryz.sizeOf299
  v47:=Tryz.zeroValue299
  i47:=by kernel_rfl
  t48:=Tryz.underlying317
  a48:=Tryz.isAgg317
  z48:=Tryz.sizeOf317
  v48:=Tryz.zeroValue317
  i48:=by kernel_rfl
  t50:=Tryz.underlying319
  a50:=Tryz.isAgg319
  z50:=Tryz.sizeOf319
  v50:=Tryz.zeroValue319
  i50:=by kernel_rfl
  t52:=Tryz.underlying291
  a52:=Tryz.isAgg291
  z52:=Tryz.sizeOf291
  v52:=Tryz.zeroValue291
  i52:=by kernel_rfl
  t55:=Tryz.underlying294
  a55:=Tryz.isAgg294
  z55:=Tryz.sizeOf294
  v55:=Tryz.zeroValue294
  i55:=by kernel_rfl
  t59:=Tryz.underlying310
  a59:=Tryz.isAgg310
  z59:=Tryz.sizeOf310
  v59:=Tryz.zeroValue310
  i59:=by kernel_rfl
  t60:=Tryz.underlying181
  a60:=Tryz.isAgg181
  z60:=Tryz.sizeOf181
  v60:=Tryz.zeroValue181
  i60:=by kernel_rfl
  t61:=Tryz.underlying311
  a61:=Tryz.isAgg311
  z61:=Tryz.sizeOf311
  t65:=Tryz.underlying324
  a65:=Tryz.isAgg324
  z65:=Tryz.sizeOf324
  v65:=Tryz.zeroValue324
  i65:=by kernel_rfl
  t66:=Tryz.underlying325
  a66:=Tryz.isAgg325
  z66:=Tryz.sizeOf325
  v66:=Tryz.zeroValue325
  i66:=by kernel_rfl
  t67:=Tryz.underlying278
  a67:=Tryz.isAgg278
  z67:=Tryz.sizeOf278
  v67:=Tryz.zeroValue278
  i67:=by kernel_rfl
  g0:=by kernel_rfl
  m0:=by kernel_rfl
  g1:=by kernel_rfl
  m1:=by kernel_rfl
  g2:=by kernel_rfl
  m2:=by kernel_rfl
  g3:=by kernel_rfl
  m3:=by kernel_rfl
  g4:=by kernel_rfl
  m4:=by kernel_rfl}
open Go.RowKit in
theorem Tryz.strconv_ParseUint_10_at32_ok (s:ByteArray) (hmax:s.size≤9223372036854775806) (u:Nat) (h:Lib.parseUintB 32 s.data.toList= .ok u) (w:World):
    Calls Tryz.prog 176 #[.string s,.int .i64 10,.int .i64 32] w fun e w'=>e= .returned (.tuple #[.int .u64 u,.nilIface])∧(w'=w∨w'=Lib.bytesWorld w 5 s):=Any.strconv_ParseUint_10_at32_ok Tryz.laysPu14 s hmax u h w
open Go.RowKit in
theorem Tryz.strconv_ParseUint_10_at32_syntax (s:ByteArray) (hlim:s.size≤281474976710656) (h:Lib.parseUintB 32 s.data.toList=Lib.NumEnd.syntax) (ev:Value) (w:World) (hv:w.cell? ⟨2,0,none⟩=some ev) (hev:ev= .nilIface∨∃te pe,ev= .iface te pe):
    Calls Tryz.prog 176 #[.string s,.int .i64 10,.int .i64 32] w fun e w'=>∃N,e= .returned (.tuple #[.int .u64 0,.iface 287 (.pointer (some ⟨N,0,none⟩))])∧w.heap.size≤N∧w'.heap[N]?=some (.cells #[.string ⟨#[80,97,114,115,101,85,105,110,116]⟩,.string s,ev] 307 (0,0))∧Below w.heap.size w w':=Any.strconv_ParseUint_10_at32_syntax Tryz.laysPu14 s hlim h ev w hv hev
open Go.RowKit in
theorem Tryz.strconv_ParseUint_10_at32_range (s:ByteArray) (hlim:s.size≤281474976710656) (h:Lib.parseUintB 32 s.data.toList= .range) (ev:Value) (w:World) (hv:w.cell? ⟨3,0,none⟩=some ev) (hev:ev= .nilIface∨∃te pe,ev= .iface te pe):
    Calls Tryz.prog 176 #[.string s,.int .i64 10,.int .i64 32] w fun e w'=>∃N,e= .returned (.tuple #[.int .u64 4294967295,.iface 287 (.pointer (some ⟨N,0,none⟩))])∧w.heap.size≤N∧w'.heap[N]?=some (.cells #[.string ⟨#[80,97,114,115,101,85,105,110,116]⟩,.string s,ev] 307 (0,0))∧Below w.heap.size w w':=Any.strconv_ParseUint_10_at32_range Tryz.laysPu14 s hlim h ev w hv hev
def Tryz.lays146_ren:Go.Shelf.Ren:=⟨fun|146=>175|221=>215|268=>236|138=>237|143=>238|195=>258|197=>259|218=>260|219=>261|260=>275|217=>270|225=>251|224=>250|267=>276|266=>280|314=>282|n=>n,fun|9=>9|31=>225|3=>3|4=>4|0=>0|105=>303|21=>21|5=>5|46=>141|119=>263|139=>266|138=>265|146=>321|51=>181|n=>n,fun|1=>5|3=>0|4=>1|n=>n⟩
theorem Tryz.lays146:Go.Proofs.Lays.n146 Tryz.prog Tryz.lays146_ren:={
  mixed:=by kernel_rfl
  f138:=Tryz.func237.trans (congrArg some (by kernel_rfl))
  f143:=Tryz.func238.trans (congrArg some (by kernel_rfl))
  f146:=Tryz.func175.trans (congrArg some (by kernel_rfl))
  f195:=Tryz.func258.trans (congrArg some (by kernel_rfl))
  f197:=Tryz.func259.trans (congrArg some (by kernel_rfl))
  f217:=Tryz.func270.trans (congrArg some (by kernel_rfl))
  f218:=Tryz.func260.trans (congrArg some (by kernel_rfl))
  f219:=Tryz.func261.trans (congrArg some (by kernel_rfl))
  f221:=Tryz.func215.trans (congrArg some (by kernel_rfl))
  f224:=Tryz.func250.trans (congrArg some (by kernel_rfl))
  f225:=Tryz.func251.trans (congrArg some (by kernel_rfl))
  f260:=Tryz.func275.trans (congrArg some (by kernel_rfl))
  f266:=Tryz.func280.trans (congrArg some (by kernel_rfl))
  f267:=Tryz.func276.trans (congrArg some (by kernel_rfl))
  f268:=Tryz.func236.trans (congrArg some (by kernel_rfl))
  f314:=Tryz.func282.trans (congrArg some (by kernel_rfl))
  t0:=Tryz.underlying0
  a0:=Tryz.isAgg0
  z0:=Tryz.sizeOf0
  v0:=Tryz.zeroValue0
  t3:=Tryz.underlying3
  a3:=Tryz.isAgg3
  z3:=Tryz.sizeOf3
  v3:=Tryz.zeroValue3
  t4:=Tryz.underlying4
  a4:=Tryz.isAgg4
  z4:=Tryz.sizeOf4
  v4:=Tryz.zeroValue4
  t5:=Tryz.underlying5
  a5:=Tryz.isAgg5
  z5:=Tryz.sizeOf5
  v5:=Tryz.zeroValue5
  t9:=Tryz.underlying9
  a9:=Tryz.isAgg9
  z9:=Tryz.sizeOf9
  v9:=Tryz.zeroValue9
  t21:=Tryz.underlying21
  a21:=Tryz.isAgg21
  z21:=Tryz.sizeOf21
  v21:=Tryz.zeroValue21
  t31:=Tryz.underlying225
  a31:=Tryz.isAgg225
  z31:=Tryz.sizeOf225
  v31:=Tryz.zeroValue225
  t46:=Tryz.underlying141
  a46:=Tryz.isAgg141
  z46:=Tryz.sizeOf141
  v46:=Tryz.zeroValue141
  t51:=Tryz.underlying181
  a51:=Tryz.isAgg181
  z51:=Tryz.sizeOf181
  v51:=Tryz.zeroValue181
  t105:=Tryz.underlying303
  a105:=Tryz.isAgg303
  z105:=Tryz.sizeOf303
  v105:=Tryz.zeroValue303
  t119:=Tryz.underlying263
  a119:=Tryz.isAgg263
  z119:=Tryz.sizeOf263
  t138:=Tryz.underlying265
  a138:=Tryz.isAgg265
  z138:=Tryz.sizeOf265
  v138:=Tryz.zeroValue265
  t139:=Tryz.underlying266
  a139:=Tryz.isAgg266
  z139:=Tryz.sizeOf266
  v139:=Tryz.zeroValue266
  t146:=Tryz.underlying321
  a146:=Tryz.isAgg321
  z146:=Tryz.sizeOf321
  v146:=Tryz.zeroValue321
  g1:=by kernel_rfl
  g3:=by kernel_rfl
  g4:=by kernel_rfl}
open Go.RowKit Go.Lib in
theorem Tryz.strings_Split (s sep:ByteArray) (m:Int) (w:World) (hs:s.size<4294967281) (hm:w.cell? ⟨5,0,none⟩=some (.int .i64 m)) (h1:1≤sep.size):
    Calls Tryz.prog 175 #[.string s,.string sep] w fun e w'=>
      e= .returned (.slice (some ⟨w.heap.size,0,none⟩) (Lib.countB s sep+1) (Lib.countB s sep+1))∧w'=w.alloc (.cells ((Lib.splitB sep 0 (Lib.countB s sep) s).map Value.string).toArray 9):=Any.strings_Split Tryz.lays146 (by kernel_rfl) s sep m w hs hm h1
def Tryz.lays151_ren:Go.Shelf.Ren:=⟨fun|151=>181|152=>220|137=>249|119=>184|224=>250|225=>251|217=>270|266=>280|n=>n,fun|9=>9|21=>21|4=>4|3=>3|5=>5|0=>0|46=>141|n=>n,fun|n=>n⟩
theorem Tryz.lays151:Go.Proofs.Lays.n151 Tryz.prog Tryz.lays151_ren:={
  mixed:=by kernel_rfl
  f119:=Tryz.func184.trans (congrArg some (by kernel_rfl))
  f137:=Tryz.func249.trans (congrArg some (by kernel_rfl))
  f151:=Tryz.func181.trans (congrArg some (by kernel_rfl))
  f152:=Tryz.func220.trans (congrArg some (by kernel_rfl))
  f217:=Tryz.func270.trans (congrArg some (by kernel_rfl))
  f224:=Tryz.func250.trans (congrArg some (by kernel_rfl))
  f225:=Tryz.func251.trans (congrArg some (by kernel_rfl))
  f266:=Tryz.func280.trans (congrArg some (by kernel_rfl))
  t0:=Tryz.underlying0
  a0:=Tryz.isAgg0
  z0:=Tryz.sizeOf0
  v0:=Tryz.zeroValue0
  t3:=Tryz.underlying3
  a3:=Tryz.isAgg3
  z3:=Tryz.sizeOf3
  v3:=Tryz.zeroValue3
  t4:=Tryz.underlying4
  a4:=Tryz.isAgg4
  z4:=Tryz.sizeOf4
  v4:=Tryz.zeroValue4
  t5:=Tryz.underlying5
  a5:=Tryz.isAgg5
  z5:=Tryz.sizeOf5
  v5:=Tryz.zeroValue5
  t9:=Tryz.underlying9
  a9:=Tryz.isAgg9
  z9:=Tryz.sizeOf9
  v9:=Tryz.zeroValue9
  t21:=Tryz.underlying21
  a21:=Tryz.isAgg21
  z21:=Tryz.sizeOf21
  v21:=Tryz.zeroValue21
  t46:=Tryz.underlying141
  a46:=Tryz.isAgg141
  z46:=Tryz.sizeOf141
  v46:=Tryz.zeroValue141}
open Go.RowKit Go.Lib in
theorem Tryz.strings_ContainsRune_ascii (s:ByteArray) (r:Int) (w:World) (h0:0≤r) (h1:r<128):
    Calls Tryz.prog 181 #[.string s,.int .i32 r] w fun e w'=>e= .returned (.bool (decide (0≤Lib.indexByte s.data.toList r.toNat.toUInt8)))∧w'=w:=Any.strings_ContainsRune_ascii Tryz.lays151 s r w h0 h1
def Tryz.laysValid_ren:Go.Shelf.Ren:=⟨fun|196=>179|259=>219|n=>n,fun|9=>9|4=>4|3=>3|5=>5|12=>12|119=>263|0=>0|46=>141|139=>266|138=>265|53=>217|n=>n,fun|3=>0|4=>1|n=>n⟩
theorem Tryz.laysValid:Go.Proofs.Lays.n196 Tryz.prog Tryz.laysValid_ren:={
  mixed:=by kernel_rfl
  f196:=Tryz.func179.trans (congrArg some (by kernel_rfl))
  f259:=Tryz.func219.trans (congrArg some (by kernel_rfl))
  t0:=Tryz.underlying0
  a0:=Tryz.isAgg0
  z0:=Tryz.sizeOf0
  v0:=Tryz.zeroValue0
  t3:=Tryz.underlying3
  a3:=Tryz.isAgg3
  z3:=Tryz.sizeOf3
  v3:=Tryz.zeroValue3
  t4:=Tryz.underlying4
  a4:=Tryz.isAgg4
  z4:=Tryz.sizeOf4
  v4:=Tryz.zeroValue4
  t5:=Tryz.underlying5
  a5:=Tryz.isAgg5
  z5:=Tryz.sizeOf5
  v5:=Tryz.zeroValue5
  t9:=Tryz.underlying9
  a9:=Tryz.isAgg9
  z9:=Tryz.sizeOf9
  v9:=Tryz.zeroValue9
  t12:=Tryz.underlying12
  a12:=Tryz.isAgg12
  z12:=Tryz.sizeOf12
  v12:=Tryz.zeroValue12
  t46:=Tryz.underlying141
  a46:=Tryz.isAgg141
  z46:=Tryz.sizeOf141
  v46:=Tryz.zeroValue141
  t53:=Tryz.underlying217
  a53:=Tryz.isAgg217
  z53:=Tryz.sizeOf217
  v53:=Tryz.zeroValue217
  t119:=Tryz.underlying263
  a119:=Tryz.isAgg263
  z119:=Tryz.sizeOf263
  t138:=Tryz.underlying265
  a138:=Tryz.isAgg265
  z138:=Tryz.sizeOf265
  v138:=Tryz.zeroValue265
  t139:=Tryz.underlying266
  a139:=Tryz.isAgg266
  z139:=Tryz.sizeOf266
  v139:=Tryz.zeroValue266
  g3:=by kernel_rfl
  g4:=by kernel_rfl}
def Tryz.laysRev_ren:Go.Shelf.Ren:=⟨fun|35=>129|n=>n,fun|22=>33|23=>5|3=>3|4=>4|0=>0|n=>n,fun|n=>n⟩
theorem Tryz.laysRev:Go.Proofs.SlLaysE.n35 Tryz.prog Tryz.laysRev_ren:={
  mixed:=by kernel_rfl
  f35:=⟨Tryz.f129.name,by decide,Tryz.func129.trans (congrArg some (by kernel_rfl))⟩
  t0:=Tryz.underlying0
  a0:=Tryz.isAgg0
  z0:=Tryz.sizeOf0
  v0:=Tryz.zeroValue0
  t3:=Tryz.underlying3
  a3:=Tryz.isAgg3
  z3:=Tryz.sizeOf3
  v3:=Tryz.zeroValue3
  t4:=Tryz.underlying4
  a4:=Tryz.isAgg4
  z4:=Tryz.sizeOf4
  v4:=Tryz.zeroValue4
  t22:=Tryz.underlying33
  a22:=Tryz.isAgg33
  z22:=Tryz.sizeOf33
  v22:=Tryz.zeroValue33
  a23:=Tryz.isAgg5
  z23:=Tryz.sizeOf5}
def Tryz.laysGrow_ren:Go.Shelf.Ren:=⟨fun|4=>123|n=>n,fun|22=>33|25=>5|3=>3|4=>4|9=>9|20=>20|0=>0|n=>n,fun|n=>n⟩
theorem Tryz.laysGrow:Go.Proofs.Lays8.n4 Tryz.prog Tryz.laysGrow_ren:={
  mixed:=by kernel_rfl
  f4:=⟨Tryz.f123.name,by decide,Tryz.func123.trans (congrArg some (by kernel_rfl))⟩
  t0:=Tryz.underlying0
  a0:=Tryz.isAgg0
  z0:=Tryz.sizeOf0
  v0:=Tryz.zeroValue0
  t3:=Tryz.underlying3
  a3:=Tryz.isAgg3
  z3:=Tryz.sizeOf3
  v3:=Tryz.zeroValue3
  t4:=Tryz.underlying4
  a4:=Tryz.isAgg4
  z4:=Tryz.sizeOf4
  v4:=Tryz.zeroValue4
  t9:=Tryz.underlying9
  a9:=Tryz.isAgg9
  z9:=Tryz.sizeOf9
  v9:=Tryz.zeroValue9
  t20:=Tryz.underlying20
  a20:=Tryz.isAgg20
  z20:=Tryz.sizeOf20
  v20:=Tryz.zeroValue20
  t22:=Tryz.underlying33
  a22:=Tryz.isAgg33
  z22:=Tryz.sizeOf33
  v22:=Tryz.zeroValue33}
end Go.Proofs
