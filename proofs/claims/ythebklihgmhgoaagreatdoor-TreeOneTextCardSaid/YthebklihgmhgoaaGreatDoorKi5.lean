/- Part 5. -/
import Derived.Test.YthebklihgmhgoaaGreatDoorKi4
import Derived.Shelf.Spec.SlicesGrow
import Derived.Shelf.Strings.Builder1
import Derived.Shelf.Strings.Builder2
import Derived.Shelf.Strings.OnBuilder
import Derived.Shelf.Small.Bits
import Derived.Shelf.Strings.Builder2Cap
import Derived.Shelf.Strconv.Itoa0
import Derived.Shelf.Strconv.Itoa1
import Derived.Shelf.LaysM
import Derived.Shelf.Strconv.Itoa2
import Derived.Shelf.Strconv.Itoa3
import Derived.Shelf.Strings.Search1
import Derived.Shelf.Strings.Search2
import Derived.Shelf.Strings.Cut
import Derived.Shelf.Strings.Shaped
import Derived.Shelf.Sort.Plain
import Derived.Shelf.GgClosure.StringsIndexFunc
import Derived.Ground.GgwProg
import Derived.Shelf.GgClosure.StringsIndexFuncTop
import Derived.Shelf.Strings.Prefix
import Derived.Shelf.Strings.Fields
import Derived.Shelf.Unicode.Latin
import Derived.Shelf.Bits.Mul64
import Derived.Shelf.Unicode.Is16White
import Derived.Shelf.Unicode.IsSpaceAny
import Derived.Shelf.Unicode.Is16WhiteD
import Derived.Shelf.Unicode.IsSpaceAnyD
import Derived.Shelf.Strings.FieldsAny
import Derived.Shelf.Strings.FieldsFuncAny
import Derived.Shelf.Unicode.Is16Any
import Derived.Shelf.Unicode.Is32Any
import Derived.Shelf.Unicode.ExclAny
import Derived.Shelf.Strings.FuncGrows
import Derived.Shelf.Slices.Equal
import Derived.Ground.Names2Prog
import Derived.Shelf.Slices.Clone
import Derived.Shelf.Slices.CompactS
import Derived.Shelf.Slices.Cells
import Derived.Shelf.Slices.In.SortNone
import Derived.Shelf.Slices.Empties2
import Derived.Test.YthebklihgmhgoaaGreatDoorProg
import Derived.KernelRfl
import Derived.Laws.RangeAny
import Derived.IntWalk
import Derived.Test.YthebklihgmhgoaaGreatDoorRows
import Derived.RangeFuncOwn
import Derived.TacticsIn
import Derived.TacticsInMore
import Derived.LoopIn
import Derived.Walk
import Derived.WalkKit
set_option maxRecDepth 8000
set_option linter.unusedVariables false
set_option linter.unusedSectionVars false
set_option linter.unusedSimpArgs false
section
namespace Go.Proofs
open Go.Shelf
def Tryz.lays156_ren:Go.Shelf.Ren:=⟨fun|156=>151|165=>191|166=>192|169=>193|240=>208|241=>209|276=>215|277=>216|n=>n,fun|31=>37|9=>9|3=>3|4=>4|0=>0|20=>20|72=>204|76=>208|70=>202|37=>141|75=>207|127=>220|164=>231|5=>5|80=>149|n=>n,fun|n=>n⟩
theorem Tryz.lays156:Go.Proofs.Lays.n156 Tryz.prog Tryz.lays156_ren:={
  mixed:=by kernel_rfl
  f156:=Tryz.func151.trans (congrArg some (by kernel_rfl))
  f165:=Tryz.func191.trans (congrArg some (by kernel_rfl))
  f166:=Tryz.func192.trans (congrArg some (by kernel_rfl))
  f169:=Tryz.func193.trans (congrArg some (by kernel_rfl))
  f240:=Tryz.func208.trans (congrArg some (by kernel_rfl))
  f241:=Tryz.func209.trans (congrArg some (by kernel_rfl))
  f276:=Tryz.func215.trans (congrArg some (by kernel_rfl))
  f277:=Tryz.func216.trans (congrArg some (by kernel_rfl))
  t0:=Tryz.underlying0
  a0:=Tryz.isAgg0
  z0:=Tryz.sizeOf0
  v0:=Tryz.zeroValue0
  t3:=Tryz.underlying3
  a3:=Tryz.isAgg3
  z3:=Tryz.sizeOf3
  v3:=Tryz.zeroValue3
  t4:=Tryz.underlying4
  a4:=Tryz.isAgg4
  z4:=Tryz.sizeOf4
  v4:=Tryz.zeroValue4
  t9:=Tryz.underlying9
  a9:=Tryz.isAgg9
  z9:=Tryz.sizeOf9
  v9:=Tryz.zeroValue9
  t20:=Tryz.underlying20
  a20:=Tryz.isAgg20
  z20:=Tryz.sizeOf20
  v20:=Tryz.zeroValue20
  t31:=Tryz.underlying37
  a31:=Tryz.isAgg37
  z31:=Tryz.sizeOf37
  v31:=Tryz.zeroValue37
  t37:=Tryz.underlying141
  a37:=Tryz.isAgg141
  z37:=Tryz.sizeOf141
  v37:=Tryz.zeroValue141
  t70:=Tryz.underlying202
  a70:=Tryz.isAgg202
  z70:=Tryz.sizeOf202
  v70:=Tryz.zeroValue202
  t72:=Tryz.underlying204
  a72:=Tryz.isAgg204
  z72:=Tryz.sizeOf204
  v72:=Tryz.zeroValue204
  t75:=Tryz.underlying207
  a75:=Tryz.isAgg207
  z75:=Tryz.sizeOf207
  v75:=Tryz.zeroValue207
  t76:=Tryz.underlying208
  a76:=Tryz.isAgg208
  z76:=Tryz.sizeOf208
  v76:=Tryz.zeroValue208
  t127:=Tryz.underlying220
  a127:=Tryz.isAgg220
  z127:=Tryz.sizeOf220
  v127:=Tryz.zeroValue220
  t164:=Tryz.underlying231
  a164:=Tryz.isAgg231
  z164:=Tryz.sizeOf231
  v164:=Tryz.zeroValue231}
theorem Tryz.Builder_Extra_156:Builder.Extra Tryz.prog Tryz.lays156_ren:={
  sizeBuilder:=by kernel_rfl
  liesBuilder:=by kernel_rfl
  t5:=Tryz.underlying5
  a5:=Tryz.isAgg5
  z5:=Tryz.sizeOf5
  v5:=Tryz.zeroValue5
  infoByte:=by kernel_rfl
  cellsByte:=by kernel_rfl
  sizeByte:=by kernel_rfl
  neB5:=by decide}
open Go.RowKit in
theorem Tryz.strings_Join_none (a:Option Addr) (c:Nat) (sep:ByteArray) (w:World):
    Calls Tryz.prog 151 #[.slice a 0 c,.string sep] w fun e w'=>e= .returned (.string ⟨#[]⟩)/\w'=w:=Any.strings_Join_none Tryz.lays156 Tryz.Builder_Extra_156 a c sep w
open Go.RowKit in
theorem Tryz.strings_Join (bk o c:Nat) (xs:List ByteArray) (sep:ByteArray) (w:World) (hcells: ∀(j:Nat) x,xs[j]? =some x->w.cell? ⟨bk,o+j,none⟩=some (.string x)) (hbk:bk<w.heap.size) (hN:xs.length<=140737488355328) (hcap:xs.length<=c) (hlen:(Lib.join (xs.map (·.data.toList)) sep.data.toList).length<=140737488355328):
    Calls Tryz.prog 151 #[.slice (some ⟨bk,o,none⟩) xs.length c,.string sep] w fun e w'=>e= .returned (.string ⟨(Lib.join (xs.map (·.data.toList)) sep.data.toList).toArray⟩)/\Below w.heap.size w w':=Any.strings_Join Tryz.lays156 Tryz.Builder_Extra_156 bk o c xs sep w hcells hbk hN hcap hlen
def Tryz.laysM246_ren:Go.Shelf.Ren:=⟨fun|246=>210|283=>217|284=>218|285=>219|286=>220|129=>178|317=>227|318=>228|319=>229|320=>230|337=>233|338=>234|n=>n,fun|2=>2|3=>3|9=>9|4=>4|171=>234|0=>0|53=>183|37=>141|5=>5|173=>236|212=>250|51=>181|20=>20|213=>251|46=>138|232=>255|233=>256|n=>n,fun|17=>3|18=>4|19=>5|n=>n⟩
def Tryz.laysM243_ren:Go.Shelf.Ren:=⟨fun|243=>194|246=>210|283=>217|284=>218|285=>219|286=>220|129=>178|317=>227|318=>228|319=>229|320=>230|337=>233|338=>234|n=>n,fun|3=>3|9=>9|2=>2|4=>4|171=>234|0=>0|53=>183|37=>141|5=>5|173=>236|212=>250|51=>181|20=>20|213=>251|46=>138|232=>255|233=>256|n=>n,fun|17=>3|18=>4|19=>5|n=>n⟩
def Tryz.laysM171_ren:Go.Shelf.Ren:=⟨fun|171=>152|243=>194|246=>210|283=>217|284=>218|285=>219|286=>220|129=>178|317=>227|318=>228|319=>229|320=>230|337=>233|338=>234|n=>n,fun|3=>3|9=>9|2=>2|4=>4|171=>234|0=>0|53=>183|37=>141|5=>5|173=>236|212=>250|51=>181|20=>20|213=>251|46=>138|232=>255|233=>256|n=>n,fun|17=>3|18=>4|19=>5|n=>n⟩
theorem Tryz.laysM171:Go.Proofs.LaysM.n171 Tryz.prog Tryz.laysM171_ren:={
  mixed:=by kernel_rfl
  f129:=Tryz.func178.trans (congrArg some (by kernel_rfl))
  f171:=Tryz.func152.trans (congrArg some (by kernel_rfl))
  f243:=Tryz.func194.trans (congrArg some (by kernel_rfl))
  f246:=Tryz.func210.trans (congrArg some (by kernel_rfl))
  f283:=Tryz.func217.trans (congrArg some (by kernel_rfl))
  f284:=Tryz.func218.trans (congrArg some (by kernel_rfl))
  f285:=Tryz.func219.trans (congrArg some (by kernel_rfl))
  f286:=Tryz.func220.trans (congrArg some (by kernel_rfl))
  f317:=Tryz.func227.trans (congrArg some (by kernel_rfl))
  f318:=Tryz.func228.trans (congrArg some (by kernel_rfl))
  f319:=Tryz.func229.trans (congrArg some (by kernel_rfl))
  f320:=Tryz.func230.trans (congrArg some (by kernel_rfl))
  f337:=Tryz.func233.trans (congrArg some (by kernel_rfl))
  f338:=Tryz.func234.trans (congrArg some (by kernel_rfl))
  t0:=Tryz.underlying0
  a0:=Tryz.isAgg0
  z0:=Tryz.sizeOf0
  v0:=Tryz.zeroValue0
  t2:=Tryz.underlying2
  a2:=Tryz.isAgg2
  z2:=Tryz.sizeOf2
  v2:=Tryz.zeroValue2
  t3:=Tryz.underlying3
  a3:=Tryz.isAgg3
  z3:=Tryz.sizeOf3
  v3:=Tryz.zeroValue3
  t4:=Tryz.underlying4
  a4:=Tryz.isAgg4
  z4:=Tryz.sizeOf4
  v4:=Tryz.zeroValue4
  t5:=Tryz.underlying5
  a5:=Tryz.isAgg5
  z5:=Tryz.sizeOf5
  v5:=Tryz.zeroValue5
  t9:=Tryz.underlying9
  a9:=Tryz.isAgg9
  z9:=Tryz.sizeOf9
  v9:=Tryz.zeroValue9
  t20:=Tryz.underlying20
  a20:=Tryz.isAgg20
  z20:=Tryz.sizeOf20
  v20:=Tryz.zeroValue20
  t37:=Tryz.underlying141
  a37:=Tryz.isAgg141
  z37:=Tryz.sizeOf141
  v37:=Tryz.zeroValue141
  t46:=Tryz.underlying138
  a46:=Tryz.isAgg138
  z46:=Tryz.sizeOf138
  v46:=Tryz.zeroValue138
  t51:=Tryz.underlying181
  a51:=Tryz.isAgg181
  z51:=Tryz.sizeOf181
  v51:=Tryz.zeroValue181
  t53:=Tryz.underlying183
  a53:=Tryz.isAgg183
  z53:=Tryz.sizeOf183
  v53:=Tryz.zeroValue183
  t171:=Tryz.underlying234
  a171:=Tryz.isAgg234
  z171:=Tryz.sizeOf234
  v171:=Tryz.zeroValue234
  t173:=Tryz.underlying236
  a173:=Tryz.isAgg236
  z173:=Tryz.sizeOf236
  v173:=Tryz.zeroValue236
  t212:=Tryz.underlying250
  a212:=Tryz.isAgg250
  z212:=Tryz.sizeOf250
  v212:=Tryz.zeroValue250
  t213:=Tryz.underlying251
  a213:=Tryz.isAgg251
  z213:=Tryz.sizeOf251
  t232:=Tryz.underlying255
  a232:=Tryz.isAgg255
  z232:=Tryz.sizeOf255
  v232:=Tryz.zeroValue255
  t233:=Tryz.underlying256
  a233:=Tryz.isAgg256
  z233:=Tryz.sizeOf256
  v233:=Tryz.zeroValue256
  g17:=by kernel_rfl
  g18:=by kernel_rfl
  g19:=by kernel_rfl
  i0:=by kernel_rfl
  i2:=by kernel_rfl
  i3:=by kernel_rfl
  i4:=by kernel_rfl
  i5:=by kernel_rfl
  i9:=by kernel_rfl
  i20:=by kernel_rfl
  i37:=by kernel_rfl
  i46:=by kernel_rfl
  i51:=by kernel_rfl
  i53:=by kernel_rfl
  i171:=by kernel_rfl
  i173:=by kernel_rfl
  i212:=by kernel_rfl
  i232:=by kernel_rfl
  i233:=by kernel_rfl
  m17:=by kernel_rfl
  m18:=by kernel_rfl
  m19:=by kernel_rfl}
open Go.RowKit Go.Sort Go.Lib in
theorem Tryz.strconv_Itoa (n:Int) (h0: -9223372036854775808<=n) (h1:n<=9223372036854775807) (w:World) (htab:Lib.TabIs Tryz.prog w "internal/strconv.uint64pow10" .u64 Lib.pow10Tab):
    Calls Tryz.prog 152 #[.int .i64 n] w fun e w'=>e= .returned (.string ⟨(Lib.itoa n).toArray⟩)/\ ∃k os,w'=grow (w.drewN k) os:=Any.strconv_Itoa Tryz.laysM171 n h0 h1 w htab
def Tryz.lays219_ren:Go.Shelf.Ren:=⟨fun|219=>214|217=>223|225=>224|224=>225|267=>226|266=>231|314=>232|n=>n,fun|9=>9|3=>3|4=>4|5=>5|46=>138|146=>197|51=>181|n=>n,fun|1=>2|n=>n⟩
theorem Tryz.lays219:Go.Proofs.Lays.n219 Tryz.prog Tryz.lays219_ren:={
  mixed:=by kernel_rfl
  f217:=Tryz.func223.trans (congrArg some (by kernel_rfl))
  f219:=Tryz.func214.trans (congrArg some (by kernel_rfl))
  f224:=Tryz.func225.trans (congrArg some (by kernel_rfl))
  f225:=Tryz.func224.trans (congrArg some (by kernel_rfl))
  f266:=Tryz.func231.trans (congrArg some (by kernel_rfl))
  f267:=Tryz.func226.trans (congrArg some (by kernel_rfl))
  f314:=Tryz.func232.trans (congrArg some (by kernel_rfl))
  t3:=Tryz.underlying3
  a3:=Tryz.isAgg3
  z3:=Tryz.sizeOf3
  v3:=Tryz.zeroValue3
  t4:=Tryz.underlying4
  a4:=Tryz.isAgg4
  z4:=Tryz.sizeOf4
  v4:=Tryz.zeroValue4
  t5:=Tryz.underlying5
  a5:=Tryz.isAgg5
  z5:=Tryz.sizeOf5
  v5:=Tryz.zeroValue5
  t9:=Tryz.underlying9
  a9:=Tryz.isAgg9
  z9:=Tryz.sizeOf9
  v9:=Tryz.zeroValue9
  t46:=Tryz.underlying138
  a46:=Tryz.isAgg138
  z46:=Tryz.sizeOf138
  v46:=Tryz.zeroValue138
  t51:=Tryz.underlying181
  a51:=Tryz.isAgg181
  z51:=Tryz.sizeOf181
  v51:=Tryz.zeroValue181
  t146:=Tryz.underlying197
  a146:=Tryz.isAgg197
  z146:=Tryz.sizeOf197
  v146:=Tryz.zeroValue197
  g1:=by kernel_rfl}
open Go.RowKit Go.Lib in
theorem Tryz.stringslite_Index_one (s:ByteArray) (c:UInt8) (w:World):
    Calls Tryz.prog 214 #[.string s,.string ⟨#[c]⟩] w fun e w'=>e= .returned (.int .i64 (Lib.indexByte s.data.toList c))/\w'=w:=Any.stringslite_Index_one Tryz.lays219 s c w
def Tryz.lays190_ren:Go.Shelf.Ren:=⟨fun|190=>66|125=>117|258=>116|128=>177|129=>178|302=>168|303=>169|304=>170|305=>171|306=>172|307=>173|308=>174|309=>175|310=>176|333=>197|329=>198|330=>199|334=>200|335=>201|336=>202|344=>212|n=>n,fun|31=>37|9=>9|3=>3|46=>138|0=>0|51=>181|53=>183|4=>4|183=>174|182=>173|131=>178|5=>5|218=>210|222=>214|228=>223|229=>30|n=>n,fun|n=>n⟩
theorem Tryz.lays190:Go.Proofs.Lays.n190 Tryz.prog Tryz.lays190_ren:={
  mixed:=by kernel_rfl
  f125:=Tryz.func117.trans (congrArg some (by kernel_rfl))
  f128:=Tryz.func177.trans (congrArg some (by kernel_rfl))
  f129:=Tryz.func178.trans (congrArg some (by kernel_rfl))
  f190:=Tryz.func66.trans (congrArg some (by kernel_rfl))
  f258:=Tryz.func116.trans (congrArg some (by kernel_rfl))
  f302:=Tryz.func168.trans (congrArg some (by kernel_rfl))
  f303:=Tryz.func169.trans (congrArg some (by kernel_rfl))
  f304:=Tryz.func170.trans (congrArg some (by kernel_rfl))
  f305:=Tryz.func171.trans (congrArg some (by kernel_rfl))
  f306:=Tryz.func172.trans (congrArg some (by kernel_rfl))
  f307:=Tryz.func173.trans (congrArg some (by kernel_rfl))
  f308:=Tryz.func174.trans (congrArg some (by kernel_rfl))
  f309:=Tryz.func175.trans (congrArg some (by kernel_rfl))
  f310:=Tryz.func176.trans (congrArg some (by kernel_rfl))
  f329:=Tryz.func198.trans (congrArg some (by kernel_rfl))
  f330:=Tryz.func199.trans (congrArg some (by kernel_rfl))
  f333:=Tryz.func197.trans (congrArg some (by kernel_rfl))
  f334:=Tryz.func200.trans (congrArg some (by kernel_rfl))
  f335:=Tryz.func201.trans (congrArg some (by kernel_rfl))
  f336:=Tryz.func202.trans (congrArg some (by kernel_rfl))
  f344:=Tryz.func212.trans (congrArg some (by kernel_rfl))
  t0:=Tryz.underlying0
  a0:=Tryz.isAgg0
  z0:=Tryz.sizeOf0
  v0:=Tryz.zeroValue0
  t3:=Tryz.underlying3
  a3:=Tryz.isAgg3
  z3:=Tryz.sizeOf3
  v3:=Tryz.zeroValue3
  t4:=Tryz.underlying4
  a4:=Tryz.isAgg4
  z4:=Tryz.sizeOf4
  v4:=Tryz.zeroValue4
  t5:=Tryz.underlying5
  a5:=Tryz.isAgg5
  z5:=Tryz.sizeOf5
  v5:=Tryz.zeroValue5
  t9:=Tryz.underlying9
  a9:=Tryz.isAgg9
  z9:=Tryz.sizeOf9
  v9:=Tryz.zeroValue9
  t31:=Tryz.underlying37
  a31:=Tryz.isAgg37
  z31:=Tryz.sizeOf37
  v31:=Tryz.zeroValue37
  t46:=Tryz.underlying138
  a46:=Tryz.isAgg138
  z46:=Tryz.sizeOf138
  v46:=Tryz.zeroValue138
  t51:=Tryz.underlying181
  a51:=Tryz.isAgg181
  z51:=Tryz.sizeOf181
  v51:=Tryz.zeroValue181
  t53:=Tryz.underlying183
  a53:=Tryz.isAgg183
  z53:=Tryz.sizeOf183
  v53:=Tryz.zeroValue183
  t131:=Tryz.underlying178
  a131:=Tryz.isAgg178
  z131:=Tryz.sizeOf178
  v131:=Tryz.zeroValue178
  t182:=Tryz.underlying173
  a182:=Tryz.isAgg173
  z182:=Tryz.sizeOf173
  v182:=Tryz.zeroValue173
  t183:=Tryz.underlying174
  a183:=Tryz.isAgg174
  z183:=Tryz.sizeOf174
  v183:=Tryz.zeroValue174
  t218:=Tryz.underlying210
  a218:=Tryz.isAgg210
  z218:=Tryz.sizeOf210
  v218:=Tryz.zeroValue210
  t222:=Tryz.underlying214
  a222:=Tryz.isAgg214
  z222:=Tryz.sizeOf214
  v222:=Tryz.zeroValue214
  t228:=Tryz.underlying223
  a228:=Tryz.isAgg223
  z228:=Tryz.sizeOf223
  v228:=Tryz.zeroValue223
  t229:=Tryz.underlying30
  a229:=Tryz.isAgg30
  z229:=Tryz.sizeOf30
  v229:=Tryz.zeroValue30}
open Go.Sort Go.RowKit in
theorem Tryz.slices_Sort_string (blk off cap:Nat) (ss:List (List UInt8)) (w:World) (hH:Holds encStr w blk off ss.toArray) (hblk:blk<w.heap.size) (hsz:ss.length<4611686018427387904):
    Calls Tryz.prog 66 #[.slice (some ⟨blk,off,none⟩) ss.length cap] w fun e w'=>
      e= .returned (.tuple #[])/\ ∃n os,w'=grow (putRow encStr (Sort.ahead w n) blk off (ss.mergeSort fun x y=>decide (x<=y)).toArray) os:=Any.slices_Sort_string Tryz.lays190 blk off cap ss w hH hblk hsz
def Tryz.laysGw17_ren:Go.Shelf.Ren:=⟨fun|17=>143|15=>185|20=>206|n=>n,fun|9=>9|23=>152|4=>4|3=>3|0=>0|21=>21|n=>n,fun|n=>n⟩
theorem Tryz.laysGw17:Go.Proofs.LaysGw.n17 Tryz.prog Tryz.laysGw17_ren:={
  mixed:=by kernel_rfl
  f15:=Tryz.func185.trans (congrArg some (by kernel_rfl))
  f17:=Tryz.func143.trans (congrArg some (by kernel_rfl))
  f20:=Tryz.func206.trans (congrArg some (by kernel_rfl))
  t0:=Tryz.underlying0
  a0:=Tryz.isAgg0
  z0:=Tryz.sizeOf0
  v0:=Tryz.zeroValue0
  i0:=by kernel_rfl
  t3:=Tryz.underlying3
  a3:=Tryz.isAgg3
  z3:=Tryz.sizeOf3
  v3:=Tryz.zeroValue3
  i3:=by kernel_rfl
  t4:=Tryz.underlying4
  a4:=Tryz.isAgg4
  z4:=Tryz.sizeOf4
  v4:=Tryz.zeroValue4
  i4:=by kernel_rfl
  t9:=Tryz.underlying9
  a9:=Tryz.isAgg9
  z9:=Tryz.sizeOf9
  v9:=Tryz.zeroValue9
  i9:=by kernel_rfl
  t21:=Tryz.underlying21
  a21:=Tryz.isAgg21
  z21:=Tryz.sizeOf21
  v21:=Tryz.zeroValue21
  i21:=by kernel_rfl
  t23:=Tryz.underlying152
  a23:=Tryz.isAgg152
  z23:=Tryz.sizeOf152
  v23:=Tryz.zeroValue152
  i23:=by kernel_rfl}
def Tryz.lays264_ren:Go.Shelf.Ren:=⟨fun|264=>189|n=>n,fun|53=>183|46=>138|n=>n,fun|n=>n⟩
theorem Tryz.lays264:Go.Proofs.Lays.n264 Tryz.prog Tryz.lays264_ren:={
  mixed:=by kernel_rfl
  f264:=Tryz.func189.trans (congrArg some (by kernel_rfl))
  t46:=Tryz.underlying138
  a46:=Tryz.isAgg138
  z46:=Tryz.sizeOf138
  v46:=Tryz.zeroValue138
  t53:=Tryz.underlying183
  a53:=Tryz.isAgg183
  z53:=Tryz.sizeOf183
  v53:=Tryz.zeroValue183}
open Go.RowKit Go.Lib in
theorem Tryz.bits_Mul64 (x y:Nat) (hx:x<18446744073709551616) (hy:y<18446744073709551616) (w:World):
    Calls Tryz.prog 189 #[.int .u64 x,.int .u64 y] w fun e w'=>e= .returned (.tuple #[.int .u64 ((x*y/18446744073709551616:Nat):Int),.int .u64 ((x*y% 18446744073709551616:Nat):Int)])/\w'=w:=Any.bits_Mul64 Tryz.lays264 x y hx hy w
open Go.RowKit Go.Lib in
theorem Tryz.strings_ContainsFunc_grows (g:Nat) (lb:Array Value) (eg: ∀args w,(callFunc g args).run Tryz.prog w= .ok (.enter g args) w) (p:Nat->Bool) (s:ByteArray) (w:World) (hp:PredGrows Tryz.prog g lb p w):
    Calls Tryz.prog 143 #[.string s,.func (.func g) #[] lb] w fun e w'=>e= .returned (.bool (decide (0<=Lib.idxFunc p true s)))/\Below w.heap.size w w':=Any.strings_ContainsFunc_grows Tryz.laysGw17 g lb eg p s w hp
def Tryz.lays194_ren:Go.Shelf.Ren:=⟨fun|194=>119|n=>n,fun|31=>37|9=>9|3=>3|4=>4|0=>0|n=>n,fun|n=>n⟩
theorem Tryz.lays194:Go.Proofs.Lays.n194 Tryz.prog Tryz.lays194_ren:={
  mixed:=by kernel_rfl
  f194:=Tryz.func119.trans (congrArg some (by kernel_rfl))
  t0:=Tryz.underlying0
  a0:=Tryz.isAgg0
  z0:=Tryz.sizeOf0
  v0:=Tryz.zeroValue0
  t3:=Tryz.underlying3
  a3:=Tryz.isAgg3
  z3:=Tryz.sizeOf3
  v3:=Tryz.zeroValue3
  t4:=Tryz.underlying4
  a4:=Tryz.isAgg4
  z4:=Tryz.sizeOf4
  v4:=Tryz.zeroValue4
  t9:=Tryz.underlying9
  a9:=Tryz.isAgg9
  z9:=Tryz.sizeOf9
  v9:=Tryz.zeroValue9
  t31:=Tryz.underlying37
  a31:=Tryz.isAgg37
  z31:=Tryz.sizeOf37
  v31:=Tryz.zeroValue37}
open Go.RowKit Go.Lib Go.Sort in
theorem Tryz.slices_Compact_string (blk off cap:Nat) (zs:List (List UInt8)) (w:World) (hH:Holds encStr w blk off zs.toArray) (hsz:zs.length<=9223372036854775807) (hcap:zs.length<=cap):
    Calls Tryz.prog 119 #[.slice (some ⟨blk,off,none⟩) zs.length cap] w fun e w'=>e= .returned (.slice (some ⟨blk,off,none⟩) (Lib.compact zs).length cap)/\ ∃q,w'=putRow encStr (Sort.ahead w q) blk off (Lib.compact zs++List.replicate (zs.length -(Lib.compact zs).length) []).toArray:=Any.slices_Compact_string Tryz.lays194 blk off cap zs w hH hsz hcap
open Go.RowKit Go.Lib Go.Sort in
theorem Tryz.slices_Compact_string_empty (a:Option Addr) (cap:Nat) (w:World):
    Calls Tryz.prog 119 #[.slice a 0 cap] w fun e w'=>e= .returned (.slice a 0 cap)/\w'=w:=Any.slices_Compact_string_empty Tryz.lays194 a cap w
open Go.RowKit Go.Sort in
theorem Tryz.slices_Sort_string_none (p:Option Addr) (cap:Nat) (w:World):
    Calls Tryz.prog 66 #[.slice p 0 cap] w fun e w'=>e= .returned (.tuple #[])/\w'=w:=Any.slices_Sort_string_none Tryz.lays190 p cap w
def Tryz.growOp_ren:Go.Shelf.Ren:=⟨fun|4=>167|n=>n,fun|22=>93|25=>46|3=>3|4=>4|9=>9|20=>20|0=>0|n=>n,fun|n=>n⟩
theorem Tryz.growOp:Go.Proofs.Lays8.n4 Tryz.prog Tryz.growOp_ren:={
  mixed:=by kernel_rfl
  f4:=⟨Tryz.f167.name,by decide,Tryz.func167.trans (congrArg some (by kernel_rfl))⟩
  t0:=Tryz.underlying0
  a0:=Tryz.isAgg0
  z0:=Tryz.sizeOf0
  v0:=Tryz.zeroValue0
  t3:=Tryz.underlying3
  a3:=Tryz.isAgg3
  z3:=Tryz.sizeOf3
  v3:=Tryz.zeroValue3
  t4:=Tryz.underlying4
  a4:=Tryz.isAgg4
  z4:=Tryz.sizeOf4
  v4:=Tryz.zeroValue4
  t9:=Tryz.underlying9
  a9:=Tryz.isAgg9
  z9:=Tryz.sizeOf9
  v9:=Tryz.zeroValue9
  t20:=Tryz.underlying20
  a20:=Tryz.isAgg20
  z20:=Tryz.sizeOf20
  v20:=Tryz.zeroValue20
  t22:=Tryz.underlying93
  a22:=Tryz.isAgg93
  z22:=Tryz.sizeOf93
  v22:=Tryz.zeroValue93}
end Go.Proofs
end
section
namespace Go.VL
open Go.Proofs Go.RowKit
theorem yM (l:List Str) (sep:Str) {c:Ck} (h1:l.length<=1099511627776) (h2:(Lib.join l sep).length<=140737488355328):aC Tryz.prog 151 [.aB (l.map aU) c,.str sep] (.str (Lib.join l sep)):=by
  refine aC.wk (args:=[.aB (l.map aU) .unk,.str sep]) ?_ (.aB (.same .nil));refine RL ⟨_,Tryz.func151,rfl,by kernel_rfl⟩ (fun w G vs hg hi hv=> ?_) (bn.mem (.cons (bC dw _) (.cons (.str _) .nil)));obtain⟨ad,cap,hc,rfl,hcells⟩:=Vs.anm hi hv;by_cases h0:l=[]
  · subst h0;refine(Tryz.strings_Join_none ad cap ⟨sep.toArray⟩ w).mono ?_;rintro e w' ⟨rfl,rfl⟩;exact⟨_,rfl,Below.refl _ _,fun G n=> .str _⟩
  · obtain⟨b,o,rfl,hb,hx⟩:=hcells h0
    have e1:(l.map fun s=>(⟨s.toArray⟩:ByteArray)).map (·.data.toList)=l:=by simp [Function.comp_def]
    have key:=Tryz.strings_Join b o cap (l.map fun s=>⟨s.toArray⟩) ⟨sep.toArray⟩ w hx hb (by simp;omega) (by simp;exact hc) (by rw [e1];exact h2);rw [e1,List.length_map]at key;refine key.mono ?_;rintro e w' ⟨rfl,hb'⟩;exact⟨_,rfl,hb',fun G n=> .str _⟩
theorem ady (s:Str) (c:UInt8):aC Tryz.prog 214 [.str s,.str [c]] (.int .i64 (Lib.indexByte s c)):=by
  refine RL ⟨_,Tryz.func214,rfl,by kernel_rfl⟩ (fun w G vs hg hi hv=> ?_) (bn.mem (.cons (.str _) (.cons (.str _) .nil)));rw [Vs.str2 hv];refine(Tryz.stringslite_Index_one ⟨s.toArray⟩ c w).mono ?_;rintro e w' ⟨rfl,rfl⟩;exact⟨_,rfl,Below.refl _ _,fun G n=> .int _ _⟩
def abz (s sep:Str):Option Int:=match sep with
  |[c]=>some (Lib.indexByte s c)
  |_=>none
theorem ahu (s sep:Str) {r:Int} (h:abz s sep=some r):aC Tryz.prog 214 [.str s,.str sep] (.int .i64 r):=by
  match sep,h with
  |[c],h=>cases h;exact ady s c
def abA (s:Str):Option (List Str):=none
theorem afN (s:Str) {r:List Str} (h:abA s=some r):aC Tryz.prog 203 [.str s,.fn (.func 204) [] []] (.aB (r.map aU) .unk):=by cases h
end Go.VL
end
section
set_option maxHeartbeats 4000000
namespace Go.VL
open Go.Proofs
def yN:Nat->Str->Int->Int->Int->Int->Option ((Int×Int))
  |0,_,_,_,_,_=>none
  |k+1,s_0,Yy,um,tH,lJ=>
    cond (decide (lJ<(s_0.length:Int))) (if 0<=lJ then Option.bind (s_0[lJ.toNat]?) fun x3=>if 0<=(x3.toNat:Int)/\(x3.toNat:Int)<256 then Option.bind (Aw[x3.toNat]?) fun x6=>yN k s_0 (IntKind.wrap .i64 (Yy+(IntKind.wrap .i64 ((BitVec.ofInt (IntKind.bits .i64) um&&&BitVec.ofInt (IntKind.bits .i64) (IntKind.wrap .i64 ((BitVec.ofInt (IntKind.bits .i64) (if IntKind.signed .i64=true then -1 else IntKind.max .i64)^^^BitVec.ofInt (IntKind.bits .i64) (IntKind.wrap .i64 x6)).toNat))).toNat)))) (IntKind.wrap .i64 x6) (IntKind.wrap .u8 ((BitVec.ofInt (IntKind.bits .u8) tH|||BitVec.ofInt (IntKind.bits .u8) (x3.toNat:Int)).toNat)) (IntKind.wrap .i64 (lJ+1))else none else none) (some ((Yy,tH)))
def NH:List Nat:=[3,4,5,6,7,8]++List.range' 13 23
theorem Zj: ∀(k:Nat) (s_0:Str) (Yy:Int) (um:Int) (tH:Int) (lJ:Int) (aA σ:Nat->PV) (H:AH) (f0:Fr NH aA σ) (sl:σ 0=(.str s_0)/\σ 3=(.int .i64 Yy)/\σ 4=(.int .i64 um)/\σ 5=(.int .u8 tH)/\σ 6=(.int .i64 lJ)) (o:(Int×Int)) (h:yN k s_0 Yy um tH lJ=some o) (Q:Post) (q0: ∀(p:Int×Int) (σ':Nat->PV),o=p->Fr NH aA σ'->(σ' 3=(.int .i64 p.1)/\σ' 5=(.int .u8 p.2))->Q (.exit 0) σ' H),W Tryz.prog (.loop Rv) Q σ H:=by
  intro k
  induction k with
  |zero=>intro s_0 Yy um tH lJ aA σ H f0 sl o h Q q0;simp only [yN,reduceCtorEq]at h
  |succ k ih=>
    intro s_0 Yy um tH lJ aA σ H f0 sl o h Q q0;obtain⟨s0,s3,s4,s5,s6⟩:=sl;unfold yN at h;refine bf (fun K hK=>aD ?_);unfold Rv;rcases au h with⟨e1,h⟩|⟨e1,h⟩
    ·obtain⟨e2,h⟩:=aL h;obtain⟨x3,e4,h⟩:=aj h;obtain⟨e5,h⟩:=aL h;obtain⟨x6,e7,h⟩:=aj h;refine dz ?_
     refine hK _ _ ?_;exact ih s_0 (IntKind.wrap .i64 (Yy+(IntKind.wrap .i64 ((BitVec.ofInt (IntKind.bits .i64) um&&&BitVec.ofInt (IntKind.bits .i64) (IntKind.wrap .i64 ((BitVec.ofInt (IntKind.bits .i64) (if IntKind.signed .i64=true then -1 else IntKind.max .i64)^^^BitVec.ofInt (IntKind.bits .i64) (IntKind.wrap .i64 x6)).toNat))).toNat)))) (IntKind.wrap .i64 x6) (IntKind.wrap .u8 ((BitVec.ofInt (IntKind.bits .u8) tH|||BitVec.ofInt (IntKind.bits .u8) (x3.toNat:Int)).toNat)) (IntKind.wrap .i64 (lJ+1)) _ _ _ aM eH _ h _ q0
    ·cases h;refine dz ?_
     exact q0 _ _ rfl aM eH
def yO:Nat->Str->Int->Option Int
  |0,_,_=>none
  |k+1,s_0,gW=>
    cond (decide (gW<(s_0.length:Int))) (if 0<=gW then Option.bind (s_0[gW.toNat]?) fun x30=>if 0<=(x30.toNat:Int)/\(x30.toNat:Int)<256 then Option.bind (Aw[x30.toNat]?) fun x33=>cond (x33 !=0) (yO k s_0 (IntKind.wrap .i64 (gW+1))) (some (gW))else none else none) (some (gW))
def NI:List Nat:=[12]++List.range' 42 14
theorem Zk: ∀(k:Nat) (s_0:Str) (gW:Int) (aA σ:Nat->PV) (H:AH) (f0:Fr NI aA σ) (sl:σ 0=(.str s_0)/\σ 12=(.int .i64 gW)) (o:Int) (h:yO k s_0 gW=some o) (Q:Post) (q0: ∀(p:Int) (σ':Nat->PV),o=p->Fr NI aA σ'->(σ' 12=(.int .i64 p))->Q (.exit 2) σ' H),W Tryz.prog (.loop Rw) Q σ H:=by
  intro k
  induction k with
  |zero=>intro s_0 gW aA σ H f0 sl o h Q q0;simp only [yO,reduceCtorEq]at h
  |succ k ih=>
    intro s_0 gW aA σ H f0 sl o h Q q0;obtain⟨s0,s12⟩:=sl;unfold yO at h;refine bf (fun K hK=>aD ?_);unfold Rw;rcases au h with⟨e28,h⟩|⟨e28,h⟩
    ·obtain⟨e29,h⟩:=aL h;obtain⟨x30,e31,h⟩:=aj h;obtain⟨e32,h⟩:=aL h;obtain⟨x33,e34,h⟩:=aj h;rcases au h with⟨e35,h⟩|⟨e35,h⟩
     ·refine dz ?_
      refine hK _ _ ?_;exact ih s_0 (IntKind.wrap .i64 (gW+1)) _ _ _ aM eH _ h _ q0
     ·cases h;refine dz ?_
      exact q0 _ _ rfl aM eH
    ·cases h;refine dz ?_
     exact q0 _ _ rfl aM eH
def yP:Nat->Str->Int->Option Int
  |0,_,_=>none
  |k+1,s_0,gW=>
    cond (decide (gW<(s_0.length:Int))) (if 0<=gW then Option.bind (s_0[gW.toNat]?) fun Yz=>if 0<=(Yz.toNat:Int)/\(Yz.toNat:Int)<256 then Option.bind (Aw[Yz.toNat]?) fun x76=>cond (x76 !=0) (yP k s_0 (IntKind.wrap .i64 (gW+1))) (some (gW))else none else none) (some (gW))
def NJ:List Nat:=[12]++List.range' 80 14
theorem Zl: ∀(k:Nat) (s_0:Str) (gW:Int) (aA σ:Nat->PV) (H:AH) (f0:Fr NJ aA σ) (sl:σ 0=(.str s_0)/\σ 12=(.int .i64 gW)) (o:Int) (h:yP k s_0 gW=some o) (Q:Post) (q0: ∀(p:Int) (σ':Nat->PV),o=p->Fr NJ aA σ'->(σ' 12=(.int .i64 p))->Q (.exit 6) σ' H),W Tryz.prog (.loop Rx) Q σ H:=by
  intro k
  induction k with
  |zero=>intro s_0 gW aA σ H f0 sl o h Q q0;simp only [yP,reduceCtorEq]at h
  |succ k ih=>
    intro s_0 gW aA σ H f0 sl o h Q q0;obtain⟨s0,s12⟩:=sl;unfold yP at h;refine bf (fun K hK=>aD ?_);unfold Rx;rcases au h with⟨Yr,h⟩|⟨Yr,h⟩
    ·obtain⟨e72,h⟩:=aL h;obtain⟨Yz,e74,h⟩:=aj h;obtain⟨Tc,h⟩:=aL h;obtain⟨x76,Qo,h⟩:=aj h;rcases au h with⟨e78,h⟩|⟨e78,h⟩
     ·refine dz ?_
      refine hK _ _ ?_;exact ih s_0 (IntKind.wrap .i64 (gW+1)) _ _ _ aM eH _ h _ q0
     ·cases h;refine dz ?_
      exact q0 _ _ rfl aM eH
    ·cases h;refine dz ?_
     exact q0 _ _ rfl aM eH
def uY:Nat->Str->(List Str)->Int->Int->Int->Option (((List Str)×Int×Int))
  |0,_,_,_,_,_=>none
  |k+1,s_0,NM,nD,gu,gW=>
    cond (decide (gW<(s_0.length:Int))) (if 0<=gW then Option.bind (s_0[gW.toNat]?) fun x48=>if 0<=(x48.toNat:Int)/\(x48.toNat:Int)<256 then Option.bind (Aw[x48.toNat]?) fun x51=>cond (x51==0) (uY k s_0 NM nD gu (IntKind.wrap .i64 (gW+1))) (if 0<=gu/\gu<=gW/\gW.toNat<=s_0.length then if 0<=nD then Option.bind (NM[nD.toNat]?) fun x56=>Option.bind (yP k s_0 (IntKind.wrap .i64 (gW+1))) (fun Yt=>uY k s_0 (NM.set nD.toNat ((s_0.take gW.toNat).drop gu.toNat)) (IntKind.wrap .i64 (nD+1)) Yt Yt)else none else none)else none else none) (some ((NM,nD,gu)))
def NP:List Nat:=[10,11,12]++List.range' 57 38
theorem Zm: ∀(k:Nat) (E9:PV) (CZ:List Nat) (M:List Nat) (s_0:Str) (NM:List Str) (nD:Int) (gu:Int) (gW:Int) (aA σ:Nat->PV) (H0 H:AH) (f0:Fr NP aA σ) (hf0:HF M H0 H) (sl:σ 0=(.str s_0)/\σ 9=E9/\σ 10=(.int .i64 nD)/\σ 11=(.int .i64 gu)/\σ 12=(.int .i64 gW)) (Fa:aO H aU 1 NM E9 CZ) (J3:Nw H0 M CZ) (o:((List Str)×Int×Int)) (h:uY k s_0 NM nD gu gW=some o) (Q:Post) (q0: ∀(p:(List Str)×Int×Int) (v0:PV) (uo:List Nat) (σ':Nat->PV) (H':AH),o=p->Fr NP aA σ'->HF M H0 H'->(σ' 9=v0/\σ' 10=(.int .i64 p.2.1)/\σ' 11=(.int .i64 p.2.2))->aO H' aU 1 p.1 v0 uo->Nw H0 M uo->Q (.exit 4) σ' H'),W Tryz.prog (.loop Ry) Q σ H:=by
  intro k
  induction k with
  |zero=>intro E9 CZ M s_0 NM nD gu gW aA σ H0 H f0 hf0 sl Fa J3 o h Q q0;simp only [uY,reduceCtorEq]at h
  |succ k ih=>
    intro E9 CZ M s_0 NM nD gu gW aA σ H0 H f0 hf0 sl Fa J3 o h Q q0;obtain⟨s0,s9,s10,s11,s12⟩:=sl;have hle0:=hf0.1;unfold uY at h;refine bf (fun K hK=>aD ?_);unfold Ry;rcases au h with⟨e46,h⟩|⟨e46,h⟩
    ·obtain⟨e47,h⟩:=aL h;obtain⟨x48,e49,h⟩:=aj h;obtain⟨e50,h⟩:=aL h;obtain⟨x51,e52,h⟩:=aj h;rcases au h with⟨e53,h⟩|⟨e53,h⟩
     ·refine dz ?_
      refine hK _ _ ?_;exact ih E9 CZ M s_0 NM nD gu (IntKind.wrap .i64 (gW+1)) _ _ _ _ aM oo eH (by repeat (first|exact Fa|apply aO.new|refine aO.put ?_ (fun hm=>by have:=aO.lt Fa _ hm;omega))) J3 _ h _ q0
     ·obtain⟨e54,h⟩:=aL h;obtain⟨e55,h⟩:=aL h;obtain⟨x56,e57,h⟩:=aj h;obtain⟨J4,w59,aq4,hil,w60,hC,hL,hD,hI⟩:=aO.content Fa e57;have w61:=ne_next hil;have w62:=aR hil;have w63:qL 1 E9 (.int .i64 nD)=some (.ref J4 (nD.toNat)):=by simpa using hI .i64 nD (by first|omega|decide) (by first|rfl|omega)
      have aAG:w59[nD.toNat]? =some (.str x56):=by simpa using hC 0 _ rfl
      clear hC hL hD hI;refine dz ?_
      refine zZ (f:=aU) (id:=J4) (o:=nD.toNat) (i:=nD.toNat) (j:=0) (a:=x56) (y:=((s_0.take gW.toNat).drop gu.toNat)) (vs:=[(.str ((s_0.take gW.toNat).drop gu.toNat))]) eH aq4 (by omega) (by repeat (first|exact Fa|apply aO.new|refine aO.put ?_ (fun hm=>by have:=aO.lt Fa _ hm;omega))) e57 eH rfl rfl (by first|decide|(simp only [List.length_cons,List.length_nil];omega)) rfl (fun H66 r67 aq5 ajg=> ?_);have le:=aq5.1;try simp only [AH.aF,AH.aG,AH.aH,AH.aI]at le
      refine dz ?_
      obtain⟨o79,h80,h⟩:=aj h;refine Zl k s_0 (IntKind.wrap .i64 (gW+1)) _ _ _ (Fr.refl _ _) eH _ h80 _ ?_
      ·rintro Yt σ' eo Xh s85;rw [eo]at h;have s86:σ' 0=(.str s_0):=(Xh 0 (by decide)).trans eH;have s87:σ' 9=E9:=(Xh 9 (by decide)).trans eH;have s88:σ' 10=(.int .i64 (IntKind.wrap .i64 (nD+1))):=(Xh 10 (by decide)).trans eH;refine dz ?_
       refine hK _ _ ?_;exact ih E9 CZ M s_0 (NM.set nD.toNat ((s_0.take gW.toNat).drop gu.toNat)) (IntKind.wrap .i64 (nD+1)) Yt Yt _ _ _ _ (by repeat (first|exact f0|refine Fr.upd (by decide) ?_|refine Fr.via Xh (by decide) ?_)) (by repeat (first|exact hf0|refine HF.new ?_|refine HF.oG ?_|refine HF.used ?_|refine HF.put (by first|(right;omega)|(left;simp only [List.mem_cons,true_or,or_true])) ?_|refine HF.via aq5 J3 ?_)) eH (by repeat (first|exact r67|apply aO.new|refine aO.put ?_ (fun hm=>by have:=aO.lt r67 _ hm;omega))) J3 _ h _ q0
    ·cases h;refine dz ?_
     exact q0 _ E9 CZ _ _ rfl aM oo eH (by repeat (first|exact Fa|apply aO.new|refine aO.put ?_ (fun hm=>by have:=aO.lt Fa _ hm;omega))) J3
def RN (k:Nat) (s_0:Str):Option (List Str):=
  Option.bind (yN k s_0 0 1 0 0) (fun jo=>cond (decide (jo.2>=128)) (Option.bind (abA s_0) fun kP=>some kP) (if 0<=jo.1/\jo.1<=1099511627776/\16*jo.1<=1099511627776 then Option.bind (yO k s_0 0) (fun p38=>Option.bind (uY k s_0 (List.replicate jo.1.toNat []) 0 p38 p38) (fun lX=>cond (decide (lX.2.2<(s_0.length:Int))) (if 0<=lX.2.2/\lX.2.2.toNat<=s_0.length then if 0<=lX.2.1 then Option.bind (lX.1[lX.2.1.toNat]?) fun ajy=>some (lX.1.set lX.2.1.toNat (s_0.drop lX.2.2.toNat))else none else none) (some lX.1)))else none))
theorem afO {k:Nat} {s_0:Str} {r:List Str} (h:RN k s_0=some r):aC Tryz.prog 180 [(.str s_0)] (.aB (r.map aU) .unk):=by
  refine aC.aP (bn.mem (.cons (.str _) .nil)) (aK auc (by simp) (aD ?_)) (bC dw _);unfold RN at h;unfold alE;refine dz ?_
  obtain⟨o8,h9,h⟩:=aj h;refine Zj k s_0 0 1 0 0 _ _ _ (Fr.refl _ _) eH _ h9 _ ?_
  ·rintro jo σ' eo WQ ⟨s14,s15⟩;rw [eo]at h;have s16:σ' 0=(.str s_0):=(WQ 0 (by decide)).trans eH;rcases au h with⟨e17,h⟩|⟨e17,h⟩
   ·obtain⟨kP,e18,h⟩:=aj h;refine dz ?_
    refine av (afN s_0 e18) ?_;cases h;refine dz ?_
    exact(jB dw _ _)
   ·obtain⟨e20,h⟩:=aL h;refine dz ?_
    refine aby (f:=aU) (k:= .i64) (n:=jo.1) (k':= .i64) (c:=jo.1) [] rfl eH eH (by omega) (by decide) (fun v21 al0 H23 r24 aBF Jr apr=> ?_);have le:=Jr.1;try simp only [AH.aF,AH.aG,AH.aH,AH.aI]at le
    refine dz ?_
    obtain⟨o36,h37,h⟩:=aj h;refine Zk k s_0 0 _ _ _ (Fr.refl _ _) eH _ h37 _ ?_
    ·rintro p38 σ' eo ajz s42;rw [eo]at h;have s43:σ' 0=(.str s_0):=(ajz 0 (by decide)).trans eH;have s44:σ' 9=v21:=(ajz 9 (by decide)).trans eH;have s45:σ' 10=(.int .i64 0):=(ajz 10 (by decide)).trans eH;refine dz ?_
     obtain⟨o89,h90,h⟩:=aj h;refine Zm k v21 al0 (al0++[]) s_0 (List.replicate jo.1.toNat []) 0 p38 p38 _ _ _ _ (Fr.refl _ _) (HF.refl _ _) eH (by repeat (first|exact r24|apply aO.new|refine aO.put ?_ (fun hm=>by have:=aO.lt r24 _ hm;omega))) (fun i hi=>Or.inl (by simp only [List.mem_append,List.mem_cons,hi,true_or,or_true])) _ h90 _ ?_
     ·rintro lX v95 aAH σ' H94 eo ajA ajB ⟨s99,ajt,axE⟩ r97 aBG;rw [eo]at h;have aBH:σ' 0=(.str s_0):=(ajA 0 (by decide)).trans eH;have le:=ajB.1;try simp only [AH.aF,AH.aG,AH.aH,AH.aI]at le
      rcases au h with⟨K8,h⟩|⟨K8,h⟩
      ·obtain⟨ajC,h⟩:=aL h;obtain⟨Nq,h⟩:=aL h;obtain⟨ajy,GH,h⟩:=aj h;obtain⟨aq9,axF,ano,hil,aBI,hC,hL,hD,hI⟩:=aO.content r97 GH;have aBJ:=ne_next hil;have aBK:=aR hil;have aBL:qL 1 v95 (.int .i64 lX.2.1)=some (.ref aq9 (lX.2.1.toNat)):=by simpa using hI .i64 lX.2.1 (by first|omega|decide) (by first|rfl|omega)
       have azO:axF[lX.2.1.toNat]? =some (.str ajy):=by simpa using hC 0 _ rfl
       clear hC hL hD hI;refine dz ?_
       refine zZ (f:=aU) (id:=aq9) (o:=lX.2.1.toNat) (i:=lX.2.1.toNat) (j:=0) (a:=ajy) (y:=(s_0.drop lX.2.2.toNat)) (vs:=[(.str (s_0.drop lX.2.2.toNat))]) eH ano (by omega) (by repeat (first|exact r97|apply aO.new|refine aO.put ?_ (fun hm=>by have:=aO.lt r97 _ hm;omega))) GH eH rfl rfl (by first|decide|(simp only [List.length_cons,List.length_nil];omega)) rfl (fun axG ara aun alb=> ?_);have le:=aun.1;try simp only [AH.aF,AH.aG,AH.aH,AH.aI]at le
       cases h;refine dz ?_
       exact(aO.fz dw (by repeat (first|exact ara|apply aO.new|refine aO.put ?_ (fun hm=>by have:=aO.lt ara _ hm;omega))))
      ·cases h;refine dz ?_
       exact(aO.fz dw (by repeat (first|exact r97|apply aO.new|refine aO.put ?_ (fun hm=>by have:=aO.lt r97 _ hm;omega))))
def xH (k:Nat):Option (List Str):=
  Option.bind (RN k ([65,83,83,85,77,69,32,65,83,83,85,77,80,84,73,79,78,32,65,88,73,79,77,32,66,89,32,67,65,83,69,32,67,72,79,79,83,69,32,67,79,78,83,84,65,78,84,32,67,79,78,83,84,65,78,84,83,32,68,69,70,32,68,69,70,73,78,69,32,68,69,70,83,32,68,79,77,65,73,78,32,69,76,83,69,32,69,78,65,66,76,69,68,32,69,88,67,69,80,84,32,69,88,84,69,78,68,83,32,70,65,76,83,69,32,72,65,86,69,32,72,73,68,69,32,73,70,32,73,78,32,73,78,83,84,65,78,67,69,32,76,65,77,66,68,65,32,76,69,77,77,65,32,76,69,84,32,76,79,67,65,76,32,77,79,68,85,76,69,32,78,69,87,32,79,66,86,73,79,85,83,32,79,77,73,84,84,69,68,32,79,84,72,69,82,32,80,73,67,75,32,80,82,79,79,70,32,80,82,79,80,79,83,73,84,73,79,78,32,80,82,79,86,69,32,81,69,68,32,82,69,67,85,82,83,73,86,69,32,83,85,66,83,69,84,32,83,85,70,70,73,67,69,83,32,84,65,75,69,32,84,72,69,78,32,84,72,69,79,82,69,77,32,84,82,85,69,32,85,78,67,72,65,78,71,69,68,32,85,78,73,79,78,32,85,83,69,32,86,65,82,73,65,66,76,69,32,86,65,82,73,65,66,76,69,83,32,87,73,84,72,32,87,73,84,78,69,83,83,32,66,79,79,76,69,65,78,32,83,84,82,73,78,71]:Str)) fun p2=>some p2
theorem abC {k:Nat} {r:List Str} (h:xH k=some r):aC Tryz.prog 126 [] (.aB (r.map aU) .unk):=by
  refine aC.aP (bn.mem .nil) (aK atM (by simp) (aD ?_)) (bC dw _);unfold xH at h;unfold alh;obtain⟨p2,e1,h⟩:=aj h;refine ah ?_
  refine av (afO e1) ?_;cases h;refine ah ?_
  exact(jB dw _ _)
end Go.VL
end
section
namespace Go.VL
open Go.Proofs Go.RowKit
def Jy:List Str:=(xH 800).getD []
theorem ahx:xH 800=some Jy:=by
  have h:(xH 800).isSome=true:=by kernel_rfl
  rw [Jy];cases h1:xH 800 with
  |none=>rw [h1]at h;cases h
  |some r=>rfl
theorem arb:aC Tryz.prog 126 [] (.aB (Jy.map aU) .unk):=abC ahx
end Go.VL
end
section
set_option maxHeartbeats 4000000
namespace Go.VL
open Go.Proofs
def DJ (k:Nat) (s_0:Str) (iX:Bool):Option Bool:=
  cond iX (some (true)) (Option.bind (dZ s_0 ([87,70,95]:Str)) fun p5=>cond p5 (some (true)) (Option.bind (dZ s_0 ([83,70,95]:Str)) fun p8=>cond p8 (some (true)) (Option.bind (dY k Jy s_0) fun mQ=>some (mQ))))
def NQ:List Nat:=List.range' 11 12
theorem Zn (k:Nat): ∀(s_0:Str) (iX:Bool) (aA σ:Nat->PV) (H:AH) (f0:Fr NQ aA σ) (sl:σ 0=(.str s_0)/\σ 10=(.bool iX)) (o:Bool) (h:DJ k s_0 iX=some o) (Q:Post) (q0: ∀(p:Bool) (σ':Nat->PV),o=p->Fr NQ aA σ'->(σ' 22=(.bool p))->Q .normal σ' H),dD Tryz.prog V5 (Q .normal) σ H:=by
  intro s_0 iX aA σ H f0 sl o h Q q0;obtain⟨s0,s10⟩:=sl;unfold DJ at h;refine dB ?_;unfold V5;rcases au h with⟨e3,h⟩|⟨e3,h⟩
  ·cases h;refine ah ?_
   exact q0 _ _ rfl aM ak
  ·obtain⟨p5,e4,h⟩:=aj h;refine ah ?_
   refine av (jr e4) ?_;rcases au h with⟨e6,h⟩|⟨e6,h⟩
   ·cases h;refine ah ?_
    exact q0 _ _ rfl aM ak
   ·obtain⟨p8,e7,h⟩:=aj h;refine ah ?_
    refine av (jr e7) ?_;rcases au h with⟨e9,h⟩|⟨e9,h⟩
    ·cases h;refine ah ?_
     exact q0 _ _ rfl aM ak
    ·refine ah ?_
     refine av (arb) ?_;obtain⟨mQ,e10,h⟩:=aj h;refine ah ?_
     refine av (kZ e10) ?_;cases h;refine ah ?_
     exact q0 _ _ rfl aM ak
def yQ (c_5:Int) (abD:Bool):Option Bool:=
  cond abD (some (true)) (Option.bind (gU (IntKind.wrap .i64 c_5) 65 90) fun p29=>some (p29))
theorem Zo: ∀(c_5:Int) (abD:Bool) (aA σ:Nat->PV) (H:AH) (f0:Fr [35,36,37,38] aA σ) (sl:σ 5=(.int .u8 c_5)/\σ 34=(.bool abD)) (o:Bool) (h:yQ c_5 abD=some o) (Q:Post) (q0: ∀(p:Bool) (σ':Nat->PV),o=p->Fr [35,36,37,38] aA σ'->(σ' 38=(.bool p))->Q .normal σ' H),dD Tryz.prog V6 (Q .normal) σ H:=by
  intro c_5 abD aA σ H f0 sl o h Q q0;obtain⟨s5,s34⟩:=sl;unfold yQ at h;refine dB ?_;unfold V6;rcases au h with⟨e27,h⟩|⟨e27,h⟩
  ·cases h;refine ah ?_
   exact q0 _ _ rfl aM ak
  ·obtain⟨p29,e28,h⟩:=aj h;refine ah ?_
   refine av (gV e28) ?_;cases h;refine ah ?_
   exact q0 _ _ rfl aM ak
def kR:Nat->Int->(List Int)->Int->Int->Option (Int⊕Bool)
  |0,_,_,_,_=>none
  |k+1,lM,uq,jw,kr=>
    cond (decide (kr<jw)) (if 0<=kr then Option.bind (uq[kr.toNat]?) fun x23=>Option.bind (gU (IntKind.wrap .i64 x23) 97 122) fun p26=>Option.bind (yQ x23 p26) (fun p32=>cond p32 (kR k (IntKind.wrap .i64 (lM+1)) uq jw (IntKind.wrap .i64 (kr+1))) (Option.bind (gU (IntKind.wrap .i64 x23) 48 57) fun p44=>cond p44 (kR k lM uq jw (IntKind.wrap .i64 (kr+1))) (cond (x23 !=95) (some (.inr (false))) (kR k lM uq jw (IntKind.wrap .i64 (kr+1))))))else none) (some (.inl lM))
def GI:List Nat:=[2,3,5]++List.range' 26 25
theorem Zp: ∀(k:Nat) (lM:Int) (uq:List Int) (jw:Int) (kr:Int) (aA σ:Nat->PV) (H:AH) (f0:Fr GI aA σ) (sl:σ 3=(.int .i64 lM)/\σ 24=(.aB (uq.map u8L) .unk)/\σ 25=(.int .i64 jw)/\σ 26=(.int .i64 kr)) (o:Int⊕Bool) (h:kR k lM uq jw kr=some o) (Q:Post) (q0: ∀(p:Int) (σ':Nat->PV),o= .inl p->Fr GI aA σ'->(σ' 3=(.int .i64 p))->Q (.exit 0) σ' H) (q1: ∀(p:Bool) (σ':Nat->PV),o= .inr (p)->Fr GI aA σ'->(σ' 2=(.bool p))->Q .ret σ' H),W Tryz.prog (.loop V7) Q σ H:=by
  intro k
  induction k with
  |zero=>intro lM uq jw kr aA σ H f0 sl o h Q q0 q1;simp only [kR,reduceCtorEq]at h
  |succ k ih=>
    intro lM uq jw kr aA σ H f0 sl o h Q q0 q1;obtain⟨s3,s24,s25,s26⟩:=sl;unfold kR at h;refine bf (fun K hK=>aD ?_);unfold V7;rcases au h with⟨e21,h⟩|⟨e21,h⟩
    ·obtain⟨e22,h⟩:=aL h;obtain⟨x23,e24,h⟩:=aj h;obtain⟨p26,e25,h⟩:=aj h;refine ah ?_
     refine av (gV e25) ?_;refine ah ?_
     obtain⟨o30,h31,h⟩:=aj h;refine Zo x23 p26 _ _ _ (Fr.refl _ _) ak _ h31 _ ?_
     ·rintro p32 σ' eo vB s36;rw [eo]at h;have s37:σ' 3=(.int .i64 lM):=(vB 3 (by decide)).trans ak;have s38:σ' 5=(.int .u8 x23):=(vB 5 (by decide)).trans ak;have s39:σ' 24=(.aB (uq.map u8L) .unk):=(vB 24 (by decide)).trans ak;have s40:σ' 25=(.int .i64 jw):=(vB 25 (by decide)).trans ak;have s41:σ' 26=(.int .i64 kr):=(vB 26 (by decide)).trans ak;rcases au h with⟨e42,h⟩|⟨e42,h⟩
      ·refine ah ?_
       refine hK _ _ ?_;exact ih (IntKind.wrap .i64 (lM+1)) uq jw (IntKind.wrap .i64 (kr+1)) _ _ _ (by repeat (first|exact f0|refine Fr.upd (by decide) ?_|refine Fr.via vB (by decide) ?_)) ak _ h _ q0 q1
      ·obtain⟨p44,e43,h⟩:=aj h;refine ah ?_
       refine av (gV e43) ?_;rcases au h with⟨e45,h⟩|⟨e45,h⟩
       ·refine ah ?_
        refine hK _ _ ?_;exact ih lM uq jw (IntKind.wrap .i64 (kr+1)) _ _ _ (by repeat (first|exact f0|refine Fr.upd (by decide) ?_|refine Fr.via vB (by decide) ?_)) ak _ h _ q0 q1
       ·rcases au h with⟨e46,h⟩|⟨e46,h⟩
        ·cases h;refine ah ?_
         exact q1 _ _ rfl (by repeat (first|exact f0|refine Fr.upd (by decide) ?_|refine Fr.via vB (by decide) ?_)) ak
        ·refine ah ?_
         refine hK _ _ ?_;exact ih lM uq jw (IntKind.wrap .i64 (kr+1)) _ _ _ (by repeat (first|exact f0|refine Fr.upd (by decide) ?_|refine Fr.via vB (by decide) ?_)) ak _ h _ q0 q1
    ·cases h;refine ah ?_
     exact q0 _ _ rfl aM ak
def oK (k:Nat) (s_0:Str):Option Bool:=
  Option.bind (gU (s_0.length:Int) 1 24) fun p2=>Option.bind (DJ k s_0 (!p2)) (fun jq=>cond jq (some false) (Option.bind (kR k 0 (sH s_0) ((sH s_0).length:Int) 0) (fun o=>Sum.elim (fun p49=>some (decide (p49>0))) (fun p54=>some p54) o)))
theorem rA {k:Nat} {s_0:Str} {r:Bool} (h:oK k s_0=some r):aC Tryz.prog 77 [(.str s_0)] (.bool r):=by
  refine aC.aP (bn.mem (.cons (.str _) .nil)) (aK awR (by simp) (aD ?_)) (.bool _);unfold oK at h;unfold ap0;obtain⟨p2,e1,h⟩:=aj h;refine ah ?_
  refine av (gV e1) ?_;refine ah ?_
  obtain⟨o12,Nn,h⟩:=aj h;refine Zn k s_0 (!p2) _ _ _ (Fr.refl _ _) ak _ Nn _ ?_
  ·rintro jq σ' eo vv qB;rw [eo]at h;have qM:σ' 0=(.str s_0):=(vv 0 (by decide)).trans ak;rcases au h with⟨e20,h⟩|⟨e20,h⟩
   ·cases h;refine ah ?_
    exact(.pure _ (.bool _))
   ·refine ah ?_
    obtain⟨o47,h48,h⟩:=aj h;refine Zp k 0 (sH s_0) ((sH s_0).length:Int) 0 _ _ _ (Fr.refl _ _) ak _ h48 _ ?_ ?_
    ·rintro p49 σ' eo Nt s53;subst eo;rw [bZ]at h;cases h;refine ah ?_
     exact(.pure _ (.bool _))
    ·rintro p54 σ' eo afP s58;subst eo;rw [dn]at h;cases h;refine ah ?_
     exact(.pure _ (.bool _))
def xI (k:Nat) (s_0:Str):Option Bool:=
  cond (decide ((s_0.length:Int)>49)) (some false) (Option.bind (abz s_0 ([33]:Str)) fun p5=>cond (decide (p5>=0)) (if 0<=p5/\p5.toNat<=s_0.length then if 0<=(IntKind.wrap .i64 (p5+1))/\(IntKind.wrap .i64 (p5+1)).toNat<=s_0.length then Option.bind (oK k (s_0.take p5.toNat)) fun jo=>cond jo (Option.bind (oK k (s_0.drop (IntKind.wrap .i64 (p5+1)).toNat)) fun yG=>some yG) (some false)else none else none) (Option.bind (oK k s_0) fun Qi=>cond Qi (some true) (some false)))
theorem NR {k:Nat} {s_0:Str} {r:Bool} (h:xI k s_0=some r):aC Tryz.prog 146 [(.str s_0)] (.bool r):=by
  refine aC.aP (bn.mem (.cons (.str _) .nil)) (aK atU (by simp) (aD ?_)) (.bool _);unfold xI at h;unfold alp;rcases au h with⟨e1,h⟩|⟨e1,h⟩
  ·cases h;refine ah ?_
   exact(.pure _ (.bool _))
  ·refine ah ?_
   refine aK alG (by simp) (aD ?_);unfold afw;refine ah ?_
   refine aK alK (by simp) (aD ?_);unfold afx;obtain⟨p5,e4,h⟩:=aj h;refine ah ?_
   refine av (ahu s_0 ([33]:Str) e4) ?_;rcases au h with⟨e6,h⟩|⟨e6,h⟩
   ·refine ah ?_
    refine dI ?_;obtain⟨e7,h⟩:=aL h;obtain⟨e8,h⟩:=aL h;obtain⟨jo,e9,h⟩:=aj h;refine ah ?_
    refine av (rA e9) ?_;rcases au h with⟨e11,h⟩|⟨e11,h⟩
    ·obtain⟨yG,e12,h⟩:=aj h;refine ah ?_
     refine av (rA e12) ?_;cases h;refine ah ?_
     exact(.pure _ (.bool _))
    ·cases h;refine ah ?_
     exact(.pure _ (.bool _))
   ·obtain⟨Qi,e14,h⟩:=aj h;refine ah ?_
    refine av (rA e14) ?_;rcases au h with⟨e16,h⟩|⟨e16,h⟩
    ·cases h;refine ah ?_
     exact(.pure _ (.bool _))
    ·cases h;refine ah ?_
     exact(.pure _ (.bool _))
end Go.VL
end
section
namespace Go.VL
open Go.Proofs Go.RowKit
theorem Vs.auo {G:Gh} {n:Nat} {s:List UInt8} {g:FuncId} {vs:Array Value} (h:Vs G n [.str s,.fn (.func g) [] []] vs):vs=#[.string ⟨s.toArray⟩,.func (.func g) #[] #[]]:=by
  obtain⟨h1,h2⟩:=h
  match vs,h1,h2 with
  |⟨[v,u]⟩,_,h2=>
    have e1:=h2 0 (.str s) v rfl rfl;have e2:=h2 1 (.fn (.func g) [] []) u rfl rfl;cases e1;cases e2 with
    |fn g cs ds vs us h1 _ h3 _=>
      have a1:vs=#[]:=Array.size_eq_zero_iff.1 h1;have a2:us=#[]:=Array.size_eq_zero_iff.1 h3;rw [a1,a2]
theorem ahz {g:FuncId} {p:Nat->Bool} (hp: ∀x:Nat,x<=1114111->aC Tryz.prog g [.int .i32 x] (.bool (p x))) {w:World} (hg: ∀a x,Glob.gc a=some x->w.cell? a=some x) (hw:WH (fun b=>w.heap.size<=b) w):PredGrows Tryz.prog g #[] p w:=by
  intro W x hx hb;have hM:dU Tryz.prog g [.int .i32 x] AH.empty fun v _=>v= .bool (p x):=dU.mono (hp x hx AH.empty) fun v H' q=>q.1;refine(dU.top hM (fun a y e=>(World.cell?_of_block (hb.block _ (World.block_lt_of_cell? w a (hg a y e)))).trans (hg a y e)) (hw.keep fun b _ hlt=>hb.block b hlt).old (vs:=#[encR x]++#[]) ?_);exact⟨rfl,fun j c y e e'=>by
    match j,e,e' with
    |0,e,e'=>cases e;cases e';exact .int _ _⟩
theorem Xn {g:FuncId} (p:Nat->Bool) (he: ∀args w,(callFunc g args).run Tryz.prog w= .ok (.enter g args) w) (hp: ∀x:Nat,x<=1114111->aC Tryz.prog g [.int .i32 x] (.bool (p x))) (s:Str):
    aC Tryz.prog 143 [.str s,.fn (.func g) [] []] (.bool (decide (0<=Lib.idxFunc p true ⟨s.toArray⟩))):=by
  refine NG ⟨_,Tryz.func143,rfl,by kernel_rfl⟩ (fun w G vs hg hi hw hv=> ?_) (bn.mem (.cons (.str _) (.cons (.fn _ _ _ (bn.mem .nil) (bn.mem .nil)) .nil)));rw [Vs.auo hv];refine(Tryz.strings_ContainsFunc_grows g #[] he p ⟨s.toArray⟩ w (ahz hp hg hw)).mono ?_;rintro e w' ⟨rfl,hb⟩;exact⟨_,rfl,hb,fun G n=> .bool _⟩
def Pg (x y:Int):Int×Int:=(((x.toNat*y.toNat/18446744073709551616:Nat):Int),((x.toNat*y.toNat% 18446744073709551616:Nat):Int))
theorem Vs.aup {G:Gh} {n:Nat} {x y:Int} {k k':IntKind} {vs:Array Value} (h:Vs G n [.int k x,.int k' y] vs):vs=#[.int k x,.int k' y]:=by
  obtain⟨h1,h2⟩:=h
  match vs,h1,h2 with
  |⟨[v,u]⟩,_,h2=>
    have e1:=h2 0 (.int k x) v rfl rfl;have e2:=h2 1 (.int k' y) u rfl rfl;cases e1;cases e2;rfl
theorem anp (x y:Int) (h:(0<=x/\x<18446744073709551616)/\(0<=y/\y<18446744073709551616)):aC Tryz.prog 189 [.int .u64 x,.int .u64 y] (.dR [.int .u64 (Pg x y).1,.int .u64 (Pg x y).2]):=by
  refine RL ⟨_,Tryz.func189,rfl,by kernel_rfl⟩ (fun w G vs hg hi hv=> ?_) (bn.mem (.cons (.int _ _) (.cons (.int _ _) .nil)));rw [Vs.aup hv];obtain⟨a,rfl⟩: ∃a:Nat,x=a:=⟨x.toNat,by omega⟩;obtain⟨b,rfl⟩: ∃b:Nat,y=b:=⟨y.toNat,by omega⟩;refine(Tryz.bits_Mul64 a b (by omega) (by omega) w).mono ?_;rintro e w' ⟨rfl,rfl⟩;refine⟨_,rfl,Below.refl _ _,fun G n=> ?_⟩;refine .dR _ _ rfl fun j c y e e'=> ?_
  match j,e,e' with
  |0,e,e'=>cases e;cases e';exact .int _ _
  |1,e,e'=>cases e;cases e';exact .int _ _
theorem Qv (p:Nat->Bool) (hp: ∀x,128<=x->p x=true) (s:Str): ∀(f pos:Nat),s.length<=pos+f->
    decide (0<=Lib.idxFuncFrom p true ⟨s.toArray⟩ f pos)=(s.drop pos).any (fun c=>p c.toNat)
  |0,pos,h=>by rw [List.drop_eq_nil_of_le (by omega)];rfl
  |f+1,pos,h=>by
    have hsz:(⟨s.toArray⟩:ByteArray).size=s.length:=rfl;by_cases hlt:pos<s.length
    · have hlt':pos<(⟨s.toArray⟩:ByteArray).size:=hlt;have hget:(⟨s.toArray⟩:ByteArray)[pos]'hlt'=s[pos]:=rfl;rw [List.drop_eq_getElem_cons hlt,List.any_cons];simp only [Lib.idxFuncFrom,hsz,hlt,if_true];by_cases ha:(s[pos]).toNat<128
      · rw [decode_ascii ⟨s.toArray⟩ pos hlt' (by rw [hget];exact ha),hget];by_cases hq:p (s[pos]).toNat=true
        · simp only [hq,if_true,Bool.true_or];exact decide_eq_true (by omega)
        · simp only [hq,Bool.false_or];exact Qv p hp s f (pos+1) (by omega)
      · have hd:=decode_high ⟨s.toArray⟩ pos hlt' (by rw [hget];omega);rw [if_pos (hp _ hd.1),hp _ (by omega),Bool.true_or];exact decide_eq_true (by omega)
    · rw [List.drop_eq_nil_of_le (by omega),Lib.idxFuncFrom_end _ _ _ _ _ (by rw [hsz];exact hlt)];rfl
theorem anq (p:Nat->Bool) (hp: ∀x,128<=x->p x=true) (s:Str):decide (0<=Lib.idxFunc p true ⟨s.toArray⟩)=s.any (fun c=>p c.toNat):=by
  have h:=Qv p hp s s.length 0 (by omega);rw [List.drop_zero]at h;exact h
def RO (x:Nat):Bool:=bif decide (32<=x)&&decide (x<=126)then x==34||x==92 else true
theorem ahA (x:Nat) (h:x<=1114111):E8 (x:Int)=some (RO x):=by
  have hw:IntKind.wrap .i64 (x:Int)=x:=IntWalk.i64_in _ (by omega);unfold E8 gU RO;rw [hw];by_cases h1:32<=x
  · have h1':(32:Int)<=x:=by omega
    by_cases h2:x<=126
    · have h2':(x:Int)<=126:=by omega
      have e1:((x:Int)==34)=(x==34):=by rw [Bool.eq_iff_iff];simp only [beq_iff_eq];omega
      have e2:((x:Int)==92)=(x==92):=by rw [Bool.eq_iff_iff];simp only [beq_iff_eq];omega
      simp only [h1,h1',h2,h2',decide_true,cond_true,Bool.and_true,Option.bind_some,e1,e2];cases x==34<;>rfl
    · have h2': ¬(x:Int)<=126:=by omega
      simp [h1,h1',h2,h2']
  · have h1': ¬(32:Int)<=x:=by omega
    simp [h1,h1']
def afQ (s:Str):Bool:=s.any (fun c=>RO c.toNat)
theorem ard (s:Str):aC Tryz.prog 143 [.str s,.fn (.func 142) [] []] (.bool (afQ s)):=by
  have h:=Xn (g:=142) RO (fun args w=>by kernel_rfl) (fun x hx=>abm (ahA x hx)) s;rw [anq RO (fun x hx=>by
    have h2: ¬x<=126:=by omega
    simp [RO,h2]) s]at h
  exact h
end Go.VL
end
section
set_option maxHeartbeats 4000000
namespace Go.VL
open Go.Proofs
def wB (s_0:Str):Option Bool:=
  cond (decide ((s_0.length:Int)<=40)) (some (!(afQ s_0))) (some false)
theorem Fb {s_0:Str} {r:Bool} (h:wB s_0=some r):aC Tryz.prog 92 [(.str s_0)] (.bool r):=by
  refine aC.aP (bn.mem (.cons (.str _) .nil)) (aK awY (by simp) (aD ?_)) (.bool _);unfold wB at h;unfold ap8;rcases au h with⟨e1,h⟩|⟨e1,h⟩
  ·refine ah ?_
   refine av (ard s_0) ?_;cases h;refine ah ?_
   exact(.pure _ (.bool _))
  ·cases h;refine ah ?_
   exact(.pure _ (.bool _))
end Go.VL
end
section
namespace Go.VL
variable [Glob]
section
variable {P:Program} {Q:Post} {σ:Nat->PV} {s:List Fm} {α β:Type} {H:AH} {f:α->List PV} {sz:Nat} {g:β->List PV} {sz2:Nat}
def Mk (f:α->List PV) (sz:Nat) (xs:List α) (H:AH) (v:PV) (H':AH):Prop:= ∃ids,aO H' f sz xs v ids/\Nw H [] ids/\HF [] H H'/\ ∀c3,eD H c3->eD H' c3
def Le (P:Program) (g:FuncId) (args:List PV) (f:α->List PV) (sz:Nat) (xs:List α):Prop:= ∀H,dU P g args H (Mk f sz xs H)
theorem arh {d:Option Nat} {g:FuncId} {args:List PV} {l:List aQ} {xs:List α} (hm:Le P g args f sz xs)
    (h: ∀(v':PV) (zG:List Nat) (H':AH),aO H' f sz xs v' zG->Nw H [] zG->HF [] H H'->(∀c3,eD H c3->eD H' c3)->WO P l s Q (upd σ d v') H'):MC P g args d l s Q σ H:=
  dU.mono (hm H) fun v H' ⟨ids,h1,h2,h3,h4⟩=>h v ids H' h1 h2 h3 h4
theorem anr {bytes:Nat} {zero:List PV} {x y:AE} [hr:Aq f sz] (z:α) (hz:f z=zero) {k k':IntKind} {n:Int} (hx:x.ev σ= .int k n) (hy:y.ev σ= .int k' n)
    (hb:0<=n/\n<=1099511627776/\bytes*n<=1099511627776) (hs:0<sz):jN P (.d (.tV sz bytes zero x y)) (Mk f sz (List.replicate n.toNat z) H) σ H:=by
  have h:=aby (P:=P) (s:=[]) (Q:=fun e σ' H'=> ∃v,σ'=upd σ (some 0) v/\Mk f sz (List.replicate n.toNat z) H v H') (d:=some 0) (l:=[]) (H:=H) (bytes:=bytes) (x:=x) (y:=y) z hz hx hy ⟨hb.1,Int.le_refl _,hb.2.1,hb.2.2⟩ hs
    (fun v' zG H' h1 h2 h3 h4=>⟨v',rfl,zG,h1,h2,h3,h4⟩)
  have h2:WD P (ni (.tV sz bytes zero x y) σ H) (some 0) [] [] (fun e σ' H'=> ∃v,σ'=upd σ (some 0) v/\Mk f sz (List.replicate n.toNat z) H v H') σ:=h;show(match ni (.tV sz bytes zero x y) σ H with|some (p,H')=>Mk f sz (List.replicate n.toNat z) H p H'|none=>False)
  revert h2;cases ni (.tV sz bytes zero x y) σ H with
  |none=>intro h2;exact h2
  |some q=>
    intro h2;obtain⟨v,e,h3⟩:=(h2: ∃v,upd σ (some 0) q.1=upd σ (some 0) v/\Mk f sz (List.replicate n.toNat z) H v q.2);have e2:=congrFun e 0;simp only [upd,if_true]at e2;show Mk f sz (List.replicate n.toNat z) H q.1 q.2
    rw [e2];exact h3
theorem ant {g:FuncId} {fs cs args:List PV} {es:List AE} {xs:List α} (hm:Le P g args f sz xs) (ha:fs++evs σ es++cs=args):jN P (.call (.c (.fn (.func g) fs cs)) es) (Mk f sz xs H) σ H:=by
  show dU P g (fs++evs σ es++cs) H _
  rw [ha];exact hm H
def TG (P:Program):List (aQ×Bool)->(Nat->PV)->(Nat->PV)->Prop
  |[],_,_=>True
  |(o,d)::l,val,σ=>(d=true\/(o.g=none/\ ∀H,jN P o.k (fun r kg=>r=val 0/\kg=H) σ H))/\TG P l (fun i=>val (i+1)) (upd σ o.dst (val 0))
theorem TG.at {P:Program}: ∀{pr:List (aQ×Bool)} {val σ:Nat->PV} (h:TG P pr val σ) (i:Nat) (o:aQ),pr[i]? =some (o,false)->uM o (fO pr val σ i)/\ ∀H,jN P o.k (fun r kg=>r=val i/\kg=H) (fO pr val σ i) H
  |(o,d)::l,val,σ,h,0,o',e=>by
    cases e;rcases h.1 with h1|⟨h1,h2⟩
    · cases h1
    · refine⟨?_,h2⟩;unfold uM;rw [h1];trivial
  |(o,d)::l,val,σ,h,i+1,o',e=>TG.at (pr:=l) h.2 i o' e
theorem ahB {ms:List Nat} {pr:List (aQ×Bool)} {K:(Nat->PV)->AH->Prop} {a b:Nat} {oa ob:aQ} {xs:List α} {ys:List β} (qP:PV->PV->Nat->PV) (hr:KV pr=[a,b]) (hne:a≠b)
    (pra:pr[a]? =some (oa,true)) (prb:pr[b]? =some (ob,true)) (ha: ∀x y,qP x y a=x) (hb: ∀x y,qP x y b=y)
    (agA: ∀x x' y i,i≠a->gZ ms a i=false->qP x y i=qP x' y i) (agB: ∀x y y' i,i≠b->gZ ms b i=false->qP x y i=qP x y' i)
    (pure: ∀x y,TG P pr (qP x y) σ)
    (mkA: ∀y H,uM oa (fO pr (qP ud y) σ a)/\jN P oa.k (Mk f sz xs H) (fO pr (qP ud y) σ a) H)
    (mkB: ∀x H,uM ob (fO pr (qP x ud) σ b)/\jN P ob.k (Mk g sz2 ys H) (fO pr (qP x ud) σ b) H)
    (hend: ∀va vb Qw J5 H2,aO H2 f sz xs va Qw->aO H2 g sz2 ys vb J5->Dj Qw J5->Nw H [] Qw->Nw H [] J5->HF [] H H2->(∀c3,eD H c3->eD H2 c3)->K (fO pr (qP va vb) σ pr.length) H2):
    ∃val:Nat->PV,EN P ms pr K σ (KV pr).length (KV pr) val H:=by
  refine⟨qP ud ud,?_⟩;rw [hr]
  have hpure: ∀(rem:List Nat) (x y:PV) (H:AH) (i:Nat) (o:aQ),pr[i]? =some (o,false)->(∀s∈rem,gZ ms s i=false)->(∀(s:Nat) (o':aQ),pr[s]? =some (o',true)->s∉rem->gZ ms i s=false)->
      (vO o (fO pr (qP x y) σ i)/\qP x y i=ud)\/(uM o (fO pr (qP x y) σ i)/\jN P o.k (fun r kg=>r=qP x y i/\kg=H) (fO pr (qP x y) σ i) H):=
    fun rem x y H i o e _ _=> .inr ⟨((pure x y).at i o e).1,((pure x y).at i o e).2 H⟩
  have hfa:[a,b].filter (·!=a)=[b]:=by simp [Ne.symm hne]
  have YA:[a,b].filter (·!=b)=[a]:=by simp [hne]
  have hj: ∀{Qw J5:List Nat} {H1:AH},(∀i∈Qw,i<H1.next)->Nw H1 [] J5->Dj Qw J5:=fun h1 h2 i hi hj=>by
    rcases h2 i hj with q|q
    · cases q
    · have:=h1 i hi;omega
  have hnw: ∀{H1:AH} {J5:List Nat},HF [] H H1->Nw H1 [] J5->Nw H [] J5:=fun h1 h2 i hi=>by
    rcases h2 i hi with q|q
    · exact .inl q
    · exact .inr (Nat.le_trans h1.1 q)
  have hft: ∀{H1 H2:AH},HF [] H H1->HF [] H1 H2->HF [] H H2:=fun h1 h2=>⟨Nat.le_trans h1.1 h2.1,fun i hi hm=>(h2.2 i (Nat.lt_of_lt_of_le hi h1.1) hm).trans (h1.2 i hi hm)⟩
  unfold EN;refine⟨hpure _ ud ud H,(fun e=>by cases e),fun j hj' o e hbj=> ?_⟩;rcases List.mem_cons.1 hj' with rfl|hj'
  · rw [pra]at e;cases e;refine⟨(mkA ud H).1,zx (fun va H1 hm=> ?_) (mkA ud H).2⟩;obtain⟨Qw,a1,a2,a3,a4⟩:=hm;refine⟨qP va ud,fun i hi hbi=> ?_,ha _ _,?_⟩
    · exact agA _ _ _ i (fun q=>hi (q▸List.mem_cons_self ..)) (hbi _ (List.mem_cons_self ..))
    · rw [hfa];unfold EN;refine⟨hpure _ va ud H1,(fun e=>by cases e),fun j hj2 o e hbj=> ?_⟩;rw [List.mem_singleton.1 hj2]at e⊢;rw [prb]at e;cases e;refine⟨(mkB va H1).1,zx (fun vb H2 hm=> ?_) (mkB va H1).2⟩;obtain⟨J5,b1,b2,b3,b4⟩:=hm;refine⟨qP va vb,fun i hi hbi=>agB _ _ _ i (fun q=>hi (q▸List.mem_cons_self ..)) (hbi _ (List.mem_cons_self ..)),hb _ _,?_⟩
      have hf:[b].filter (·!=b)=[]:=by simp
      rw [hf];unfold EN;exact⟨hpure _ va vb H2,fun _=>hend va vb Qw J5 H2 (a1.hf b3 Dj.nil.symm) b1 (hj (fun i hi=>a1.lt i hi) b2) a2 (hnw a3 b2) (hft a3 b3) (fun c3 h=>b4 c3 (a4 c3 h)),rfl⟩
  · rw [List.mem_singleton.1 hj']at e⊢;rw [prb]at e;cases e;refine⟨(mkB ud H).1,zx (fun vb H1 hm=> ?_) (mkB ud H).2⟩;obtain⟨J5,b1,b2,b3,b4⟩:=hm;refine⟨qP ud vb,fun i hi hbi=> ?_,hb _ _,?_⟩
    · exact agB _ _ _ i (fun q=>hi (q▸List.mem_cons_of_mem _ (List.mem_cons_self ..))) (hbi _ (List.mem_cons_of_mem _ (List.mem_cons_self ..)))
    · rw [YA];unfold EN;refine⟨hpure _ ud vb H1,(fun e=>by cases e),fun j hj2 o e hbj=> ?_⟩;rw [List.mem_singleton.1 hj2]at e⊢;rw [pra]at e;cases e;refine⟨(mkA vb H1).1,zx (fun va H2 hm=> ?_) (mkA vb H1).2⟩;obtain⟨Qw,a1,a2,a3,a4⟩:=hm;refine⟨qP va vb,fun i hi hbi=>agA _ _ _ i (fun q=>hi (q▸List.mem_cons_self ..)) (hbi _ (List.mem_cons_self ..)),ha _ _,?_⟩
      have hf:[a].filter (·!=a)=[]:=by simp
      rw [hf];unfold EN;exact⟨hpure _ va vb H2,fun _=>hend va vb Qw J5 H2 a1 (b1.hf a3 Dj.nil.symm) (Dj.symm (hj (fun i hi=>b1.lt i hi) a2)) (hnw b3 a2) b2 (hft b3 a3) (fun c3 h=>a4 c3 (b4 c3 h)),rfl⟩
theorem anu {ms:List Nat} {pr:List (aQ×Bool)} {post:List aQ} (h: ∃val:Nat->PV,EN P ms pr (fun σ H=>WO P post s Q σ H) σ (KV pr).length (KV pr) val H):WS P (.aal ms pr post) s Q σ H:=h
end
end Go.VL
end
section
namespace Go.VL
open Go.Proofs Go.RowKit
theorem ZL {G:Gh} {m:Nat} {v:Value} (h:V G m (.aB [] .nil) v):v= .slice none 0 0:=by
  generalize hp:PV.aB [] .nil=p at h;cases h with
  |aB es c sz ad cap f h1 h2 h3 h4 h5=>
    cases hp;have q1:=h5.1;have q2:=h5.2.2;rw [q1,q2];rfl
  |_=>cases hp
theorem Vs.ari {G:Gh} {m:Nat} {n:Int} {vs:Array Value} (h:Vs G m [.aB [] .nil,.int .i64 n] vs):vs=#[.slice none 0 0,.int .i64 n]:=by
  obtain⟨h1,h2⟩:=h
  match vs,h1,h2 with
  |⟨[v,u]⟩,_,h2=>
    have e1:=h2 0 (.aB [] .nil) v rfl rfl;have e2:=h2 1 (.int .i64 n) u rfl rfl;cases e2;have e3:=ZL e1;rw [e3]
theorem al5 (zs:Array Value) (k:Nat):(Builtin.zeroCells zs k).size=k*zs.size:=by simp [Builtin.zeroCells]
theorem ahC (n:Int) (h:0<n/\n<=1000000):Le Tryz.prog 167 [.aB [] .nil,.int .i64 n] Operator.cells 7 []:=by
  intro H;refine⟨⟨_,Tryz.func167,rfl,by kernel_rfl⟩,fun B G w vs hU hM hv=> ?_⟩;obtain⟨n,rfl⟩: ∃k:Nat,n=k:=⟨n.toNat,by omega⟩;rw [Vs.ari hv];obtain⟨i0,hi0,hq⟩: ∃i0,Tryz.prog.info? (Tryz.growOp_ren.t 25)=some i0/\(i0.zero.map fun z=>z.cells.size)=some 7/\i0.size=7/\i0.bytes=64:=by
    have h:(Tryz.prog.info? (Tryz.growOp_ren.t 25)).map (fun i0=>((i0.zero.map fun z=>z.cells.size),i0.size,i0.bytes))=some (some 7,7,64):=by kernel_rfl
    cases hi:Tryz.prog.info? (Tryz.growOp_ren.t 25)with
    |none=>rw [hi]at h;cases h
    |some i0=>rw [hi]at h;simp only [Option.map_some,Option.some.injEq,Prod.mk.injEq]at h;exact⟨i0,rfl,h.1,h.2.1,h.2.2⟩
  obtain⟨hz,hs,hb⟩:=hq;obtain⟨z,hz0,hz1⟩:=Option.map_eq_some_iff.1 hz;have key:=Any8.slices_Grow_grow Tryz.growOp i0 z hi0 hz0 (by omega) none 0 0 n [] w (Nat.le_refl _) (by omega) (by rw [hb];omega) (by omega) (by simp) (fun _=>rfl) (fun a e=>by cases e);have hge:=grownCap_ge w (0+n) 0 (Tryz.growOp_ren.t 25);refine key.mono ?_;rintro e w' ⟨rfl,rfl⟩
  obtain⟨G',e1,e2,e3⟩:=HM.newObj (w:=w.drew) hU hM.drew (Tryz.growOp_ren.t 25) (Vs.U0 (G:=G) H.next (grownCap w (0+n) 0 (Tryz.growOp_ren.t 25)*7) _ (by
    show((#[]:Array Value)++Builtin.zeroCells z.cells (0+n -0)++Builtin.zeroCells z.cells (grownCap w (0+n) 0 (Tryz.growOp_ren.t 25) -(0+n))).size=_
    rw [Array.size_append,Array.size_append,al5,al5,hz1];simp only [Array.size_empty];omega))
  refine⟨_,_,_,G',rfl,Tr.DX w _,e1,Nat.le_succ _,e2,.dQ H.next 0 0 _ 7 _ (Nat.lt_succ_self _) e3,[H.next],.inr ⟨H.next,_,List.replicate (grownCap w (0+n) 0 (Tryz.growOp_ren.t 25)*7) .any,rfl,rfl,Nat.zero_le _,Nat.lt_succ_self _,?_,?_⟩,?_,(HF.refl _ _).new,fun c3 hc=>hc.new⟩
  · show(if H.next=H.next then some _ else _)=_
    rw [if_pos rfl];rfl
  · rw [List.length_replicate,List.length_nil,Nat.sub_zero]
  · intro i hi;rw [List.mem_singleton.1 hi];exact .inr (Nat.le_refl _)
end Go.VL
end
section
set_option maxHeartbeats 4000000
namespace Go.VL
open Go.Proofs
def wC:Nat->Int->Int->(List Operator)->(List Str)->Int->Int->Option (List Operator)
  |0,_,_,_,_,_,_=>none
  |k+1,iH,fT,nE,iX,bF,mJ=>
    cond (decide (mJ<bF)) (if 0<=mJ then Option.bind (iX[mJ.toNat]?) fun x3=>if(nE.length+1)*64<=1099511627776 then wC k iH fT (nE++[(Operator.mk x3 0 iH fT false 1 1)]) iX bF (IntKind.wrap .i64 (mJ+1))else none else none) (some (nE))
def Mh:List Nat:=[7,9]++List.range' 12 12
theorem Xo: ∀(k:Nat) (iH:Int) (fT:Int) (nE:List Operator) (iX:List Str) (bF:Int) (mJ:Int) (jV:Ck) (aA σ:Nat->PV) (H0 H:AH) (f0:Fr Mh aA σ) (hf0:HF [] H0 H) (sl:σ 0=(.int .i64 iH)/\σ 1=(.int .i64 fT)/\σ 7=(.aB (nE.map Operator.cells) jV)/\σ 10=(.aB (iX.map aU) .unk)/\σ 11=(.int .i64 bF)/\σ 12=(.int .i64 mJ)) (GJ:eD H jV) (o:List Operator) (h:wC k iH fT nE iX bF mJ=some o) (Q:Post) (q0: ∀(p:List Operator) (c0:Ck) (σ':Nat->PV) (H':AH),o=p->Fr Mh aA σ'->HF [] H0 H'->(σ' 7=(.aB (p.map Operator.cells) c0))->Q (.exit 0) σ' H'),W Tryz.prog (.loop Rh) Q σ H:=by
  intro k
  induction k with
  |zero=>intro iH fT nE iX bF mJ jV aA σ H0 H f0 hf0 sl GJ o h Q q0;simp only [wC,reduceCtorEq]at h
  |succ k ih=>
    intro iH fT nE iX bF mJ jV aA σ H0 H f0 hf0 sl GJ o h Q q0;obtain⟨s0,s1,s7,s10,s11,s12⟩:=sl;have hle0:=hf0.1;unfold wC at h;refine bf (fun K hK=>aD ?_);unfold Rh;rcases au h with⟨e1,h⟩|⟨e1,h⟩
    ·obtain⟨e2,h⟩:=aL h;obtain⟨x3,e4,h⟩:=aj h;obtain⟨e9,h⟩:=aL h;refine ah ?_
     refine kN (f:=Operator.cells) Operator.row nE ([(Operator.mk x3 0 iH fT false 1 1)]:List Operator) jV .exact ak ak eZ (by first|exact e9|(simp only [List.length_cons,List.length_nil];exact e9)) (fun c5 H6 ok7 le ajD rl8=> ?_);have ajE:HF [] _ H6:=⟨le,fun i _ _=>ajD i⟩;try simp only [AH.aF,AH.aG,AH.aH,AH.aI]at le
     refine ah ?_
     refine hK _ _ ?_;exact ih iH fT (nE++[(Operator.mk x3 0 iH fT false 1 1)]) iX bF (IntKind.wrap .i64 (mJ+1)) c5 _ _ _ _ aM (by repeat (first|exact hf0|refine HF.new ?_|refine HF.oG ?_|refine HF.used ?_|refine HF.put (by first|(right;omega)|(left;simp only [List.mem_cons,true_or,or_true])) ?_|refine HF.via ajE (by first|exact fun i hi=>absurd hi List.not_mem_nil|(intro i hi;simp only [List.mem_cons,List.not_mem_nil,or_false]at hi⊢;first|exact .inl hi|omega)) ?_)) ak eZ _ h _ q0
    ·cases h;refine ah ?_
     exact q0 _ jV _ _ rfl aM oo ak
def wD (k:Nat) (iH:Int) (fT:Int) (C8:List Str):Option (List Operator):=
  Option.bind (wC k iH fT ([]:List Operator) C8 (C8.length:Int) 0) (fun jq=>some jq)
theorem yR {k:Nat} {iH:Int} {fT:Int} {C8:List Str} {c2:Ck} {r:List Operator} (h:wD k iH fT C8=some r):aC Tryz.prog 113 [(.int .i64 iH),(.int .i64 fT),(.aB (C8.map aU) c2)] (.aB (r.map Operator.cells) .unk):=by
  refine aC.lw (.same (.same (.aB .nil))) (aC.aP (bn.mem (.cons (.int _ _) (.cons (.int _ _) (.cons (bC dw _) .nil)))) (aK atE (by simp) (aD ?_)) (bC Operator.pu _));unfold wD at h;unfold ak5;refine ah ?_
  obtain⟨o12,Nn,h⟩:=aj h;refine Xo k iH fT ([]:List Operator) C8 (C8.length:Int) 0 .nil _ _ _ _ (Fr.refl _ _) (HF.refl _ _) ak eZ _ Nn _ ?_
  ·rintro jq c18 σ' H17 eo vv ajF qM;rw [eo]at h;have le:=ajF.1;try simp only [AH.aF,AH.aG,AH.aH,AH.aI]at le
   cases h;refine ah ?_
   exact(jB Operator.pu _ _)
def wE:Nat->Int->Int->Bool->(List Operator)->(List Str)->Int->Int->Option (List Operator)
  |0,_,_,_,_,_,_,_=>none
  |k+1,iH,fT,oZ,DL,mJ,iD,Jz=>
    cond (decide (Jz<iD)) (if 0<=Jz then Option.bind (mJ[Jz.toNat]?) fun x3=>if(DL.length+1)*64<=1099511627776 then wE k iH fT oZ (DL++[(Operator.mk x3 1 iH fT oZ 2 2)]) mJ iD (IntKind.wrap .i64 (Jz+1))else none else none) (some (DL))
def Mi:List Nat:=[9,11]++List.range' 14 13
theorem Xp: ∀(k:Nat) (iH:Int) (fT:Int) (oZ:Bool) (DL:List Operator) (mJ:List Str) (iD:Int) (Jz:Int) (xJ:Ck) (aA σ:Nat->PV) (H0 H:AH) (f0:Fr Mi aA σ) (hf0:HF [] H0 H) (sl:σ 0=(.int .i64 iH)/\σ 1=(.int .i64 fT)/\σ 2=(.bool oZ)/\σ 9=(.aB (DL.map Operator.cells) xJ)/\σ 12=(.aB (mJ.map aU) .unk)/\σ 13=(.int .i64 iD)/\σ 14=(.int .i64 Jz)) (abE:eD H xJ) (o:List Operator) (h:wE k iH fT oZ DL mJ iD Jz=some o) (Q:Post) (q0: ∀(p:List Operator) (c0:Ck) (σ':Nat->PV) (H':AH),o=p->Fr Mi aA σ'->HF [] H0 H'->(σ' 9=(.aB (p.map Operator.cells) c0))->Q (.exit 0) σ' H'),W Tryz.prog (.loop Ri) Q σ H:=by
  intro k
  induction k with
  |zero=>intro iH fT oZ DL mJ iD Jz xJ aA σ H0 H f0 hf0 sl abE o h Q q0;simp only [wE,reduceCtorEq]at h
  |succ k ih=>
    intro iH fT oZ DL mJ iD Jz xJ aA σ H0 H f0 hf0 sl abE o h Q q0;obtain⟨s0,s1,s2,s9,s12,s13,s14⟩:=sl;have hle0:=hf0.1;unfold wE at h;refine bf (fun K hK=>aD ?_);unfold Ri;rcases au h with⟨e1,h⟩|⟨e1,h⟩
    ·obtain⟨e2,h⟩:=aL h;obtain⟨x3,e4,h⟩:=aj h;obtain⟨e9,h⟩:=aL h;refine ah ?_
     refine kN (f:=Operator.cells) Operator.row DL ([(Operator.mk x3 1 iH fT oZ 2 2)]:List Operator) xJ .exact ak ak eZ (by first|exact e9|(simp only [List.length_cons,List.length_nil];exact e9)) (fun c5 H6 ok7 le ajD rl8=> ?_);have ajE:HF [] _ H6:=⟨le,fun i _ _=>ajD i⟩;try simp only [AH.aF,AH.aG,AH.aH,AH.aI]at le
     refine ah ?_
     refine hK _ _ ?_;exact ih iH fT oZ (DL++[(Operator.mk x3 1 iH fT oZ 2 2)]) mJ iD (IntKind.wrap .i64 (Jz+1)) c5 _ _ _ _ aM (by repeat (first|exact hf0|refine HF.new ?_|refine HF.oG ?_|refine HF.used ?_|refine HF.put (by first|(right;omega)|(left;simp only [List.mem_cons,true_or,or_true])) ?_|refine HF.via ajE (by first|exact fun i hi=>absurd hi List.not_mem_nil|(intro i hi;simp only [List.mem_cons,List.not_mem_nil,or_false]at hi⊢;first|exact .inl hi|omega)) ?_)) ak eZ _ h _ q0
    ·cases h;refine ah ?_
     exact q0 _ xJ _ _ rfl aM oo ak
def gI (k:Nat) (iH:Int) (fT:Int) (oZ:Bool) (C9:List Str):Option (List Operator):=
  Option.bind (wE k iH fT oZ ([]:List Operator) C9 (C9.length:Int) 0) (fun jq=>some jq)
theorem fH {k:Nat} {iH:Int} {fT:Int} {oZ:Bool} {C9:List Str} {c3:Ck} {r:List Operator} (h:gI k iH fT oZ C9=some r):aC Tryz.prog 114 [(.int .i64 iH),(.int .i64 fT),(.bool oZ),(.aB (C9.map aU) c3)] (.aB (r.map Operator.cells) .unk):=by
  refine aC.lw (.same (.same (.same (.aB .nil)))) (aC.aP (bn.mem (.cons (.int _ _) (.cons (.int _ _) (.cons (.bool _) (.cons (bC dw _) .nil))))) (aK ak7 (by simp) (aD ?_)) (bC Operator.pu _));unfold gI at h;unfold ak6;refine ah ?_
  obtain⟨o12,Nn,h⟩:=aj h;refine Xp k iH fT oZ ([]:List Operator) C9 (C9.length:Int) 0 .nil _ _ _ _ (Fr.refl _ _) (HF.refl _ _) ak eZ _ Nn _ ?_
  ·rintro jq c18 σ' H17 eo vv ajF qM;rw [eo]at h;have le:=ajF.1;try simp only [AH.aF,AH.aG,AH.aH,AH.aI]at le
   cases h;refine ah ?_
   exact(jB Operator.pu _ _)
def rC:Nat->Int->(List (List Operator))->Int->Option Int
  |0,_,_,_=>none
  |k+1,Br,pX,bF=>
    cond (decide (bF<24)) (if 0<=bF then Option.bind (pX[bF.toNat]?) fun x50=>cond (decide ((IntKind.wrap .i64 (Br+(x50.length:Int)))<0)) (none) (rC k (IntKind.wrap .i64 (Br+(x50.length:Int))) pX (IntKind.wrap .i64 (bF+1)))else none) (some (Br))
def GK:List Nat:=[3,5]++List.range' 11 12
theorem P5: ∀(k:Nat) (Br:Int) (pX:List (List Operator)) (bF:Int) (Lf:Ck) (aA σ:Nat->PV) (H:AH) (f0:Fr GK aA σ) (sl:σ 3=(.int .i64 Br)/\σ 9=(.aB (pX.map (Nf Operator.cells)) Lf)/\σ 10=(.int .i64 24)/\σ 11=(.int .i64 bF)) (o:Int) (h:rC k Br pX bF=some o) (Q:Post) (q0: ∀(p:Int) (σ':Nat->PV),o=p->Fr GK aA σ'->(σ' 3=(.int .i64 p))->Q (.exit 0) σ' H),W Tryz.prog (.loop Rj) Q σ H:=by
  intro k
  induction k with
  |zero=>intro Br pX bF Lf aA σ H f0 sl o h Q q0;simp only [rC,reduceCtorEq]at h
  |succ k ih=>
    intro Br pX bF Lf aA σ H f0 sl o h Q q0;obtain⟨s3,s9,s10,s11⟩:=sl;unfold rC at h;refine bf (fun K hK=>aD ?_);unfold Rj;rcases au h with⟨e48,h⟩|⟨e48,h⟩
    ·obtain⟨e49,h⟩:=aL h;obtain⟨x50,e51,h⟩:=aj h;rcases au h with⟨e52,h⟩|⟨e52,h⟩
     ·cases h
     ·refine dz ?_
      refine hK _ _ ?_;exact ih (IntKind.wrap .i64 (Br+(x50.length:Int))) pX (IntKind.wrap .i64 (bF+1)) Lf _ _ _ aM eH _ h _ q0
    ·cases h;refine dz ?_
     exact q0 _ _ rfl aM eH
def rD:Nat->(List Operator)->(List (List Operator))->Int->Option (List Operator)
  |0,_,_,_=>none
  |k+1,nG,jw,gD=>
    cond (decide (gD<24)) (if 0<=gD then Option.bind (jw[gD.toNat]?) fun x71=>if 0<x71.length/\(nG.length+x71.length)*64<=1099511627776 then rD k (nG++x71) jw (IntKind.wrap .i64 (gD+1))else none else none) (some (nG))
def GL:List Nat:=[6,8]++List.range' 27 8
theorem P6: ∀(k:Nat) (sN:PV) (sP:List Nat) (M:List Nat) (nG:List Operator) (jw:List (List Operator)) (gD:Int) (IG:Ck) (aA σ:Nat->PV) (H0 H:AH) (f0:Fr GL aA σ) (hf0:HF M H0 H) (sl:σ 6=sN/\σ 25=(.aB (jw.map (Nf Operator.cells)) IG)/\σ 26=(.int .i64 24)/\σ 27=(.int .i64 gD)) (sQ:aO H Operator.cells 7 nG sN sP) (uP:Nw H0 M sP) (o:List Operator) (h:rD k nG jw gD=some o) (Q:Post) (q0: ∀(p:List Operator) (v0:PV) (uo:List Nat) (σ':Nat->PV) (H':AH),o=p->Fr GL aA σ'->HF M H0 H'->(σ' 6=v0)->aO H' Operator.cells 7 p v0 uo->Nw H0 M uo->Q (.exit 2) σ' H'),W Tryz.prog (.loop Rk) Q σ H:=by
  intro k
  induction k with
  |zero=>intro sN sP M nG jw gD IG aA σ H0 H f0 hf0 sl sQ uP o h Q q0;simp only [rD,reduceCtorEq]at h
  |succ k ih=>
    intro sN sP M nG jw gD IG aA σ H0 H f0 hf0 sl sQ uP o h Q q0;obtain⟨s6,s25,s26,s27⟩:=sl;have hle0:=hf0.1;unfold rD at h;refine bf (fun K hK=>aD ?_);unfold Rk;rcases au h with⟨e69,h⟩|⟨e69,h⟩
    ·obtain⟨YB,h⟩:=aL h;obtain⟨x71,e72,h⟩:=aj h;obtain⟨Qn,h⟩:=aL h;refine dz ?_
     refine ND (f:=Operator.cells) (v:=sN) Operator.row nG (x71:List Operator) .unk eH (by repeat (first|exact sQ|apply aO.new|refine aO.put ?_ (fun hm=>by have:=aO.lt sQ _ hm;omega))) eH Qn.1 Qn.2 (fun v74 auq H76 r77 axH arj ajh=> ?_);have le:=arj.1;try simp only [AH.aF,AH.aG,AH.aH,AH.aI]at le
     refine dz ?_
     refine hK _ _ ?_;exact ih v74 auq M (nG++x71) jw (IntKind.wrap .i64 (gD+1)) IG _ _ _ _ aM (by repeat (first|exact hf0|refine HF.new ?_|refine HF.oG ?_|refine HF.used ?_|refine HF.put (by first|(right;omega)|(left;simp only [List.mem_cons,true_or,or_true])) ?_|refine HF.via arj uP ?_)) eH (by repeat (first|exact r77|apply aO.new|refine aO.put ?_ (fun hm=>by have:=aO.lt r77 _ hm;omega))) (Nw.trans uP bJ axH) _ h _ q0
    ·cases h;refine dz ?_
     exact q0 _ sN sP _ _ rfl aM oo eH (by repeat (first|exact sQ|apply aO.new|refine aO.put ?_ (fun hm=>by have:=aO.lt sQ _ hm;omega))) uP
def xK:Nat->(List Operator)->Int->Int->Option (List Operator)
  |0,_,_,_=>none
  |k+1,mO,JA,mK=>
    cond (decide (mK<JA)) (if 0<=mK then Option.bind (mO[mK.toNat]?) fun x95=>cond (x95.text==([92,88]:Str)) (xK k (mO.set mK.toNat (Operator.mk x95.text x95.fix x95.low x95.high x95.left x95.least 4)) JA (IntKind.wrap .i64 (mK+1))) (xK k mO JA (IntKind.wrap .i64 (mK+1)))else none) (some (mO))
def Qx:List Nat:=[4]++List.range' 80 14
theorem abF: ∀(k:Nat) (z8:PV) (wF:List Nat) (M:List Nat) (mO:List Operator) (JA:Int) (mK:Int) (aA σ:Nat->PV) (H0 H:AH) (f0:Fr Qx aA σ) (hf0:HF M H0 H) (sl:σ 3=z8/\σ 79=(.int .i64 JA)/\σ 80=(.int .i64 mK)) (xL:aO H Operator.cells 7 mO z8 wF) (Da:Nw H0 M wF) (o:List Operator) (h:xK k mO JA mK=some o) (Q:Post) (q0: ∀(p:List Operator) (v0:PV) (uo:List Nat) (σ':Nat->PV) (H':AH),o=p->Fr Qx aA σ'->HF M H0 H'->(σ' 3=v0)->aO H' Operator.cells 7 p v0 uo->Nw H0 M uo->Q (.exit 0) σ' H'),W Tryz.prog (.loop VY) Q σ H:=by
  intro k
  induction k with
  |zero=>intro z8 wF M mO JA mK aA σ H0 H f0 hf0 sl xL Da o h Q q0;simp only [xK,reduceCtorEq]at h
  |succ k ih=>
    intro z8 wF M mO JA mK aA σ H0 H f0 hf0 sl xL Da o h Q q0;obtain⟨s3,s79,s80⟩:=sl;have hle0:=hf0.1;unfold xK at h;refine bf (fun K hK=>aD ?_);unfold VY;rcases au h with⟨Tj,h⟩|⟨Tj,h⟩
    ·obtain⟨e94,h⟩:=aL h;obtain⟨x95,e96,h⟩:=aj h;obtain⟨w97,TH,ark,hil,w99,hC,hL,hD,hI⟩:=aO.content xL e96;have aBM:=ne_next hil;have aBN:=aR hil;have aBO:qL 7 z8 (.int .i64 mK)=some (.ref w97 (mK.toNat*7)):=by simpa using hI .i64 mK (by first|omega|decide) (by first|rfl|omega)
     have aAI:TH[mK.toNat*7]? =some (.str x95.text):=by simpa using hC 0 _ rfl
     have aAJ:TH[mK.toNat*7+1]? =some (.int .i64 x95.fix):=by simpa using hC 1 _ rfl
     have aAK:TH[mK.toNat*7+2]? =some (.int .i64 x95.low):=by simpa using hC 2 _ rfl
     have aAL:TH[mK.toNat*7+3]? =some (.int .i64 x95.high):=by simpa using hC 3 _ rfl
     have aAM:TH[mK.toNat*7+4]? =some (.bool x95.left):=by simpa using hC 4 _ rfl
     have aAN:TH[mK.toNat*7+5]? =some (.int .i64 x95.least):=by simpa using hC 5 _ rfl
     have aAO:TH[mK.toNat*7+6]? =some (.int .i64 x95.most):=by simpa using hC 6 _ rfl
     have aBP:mK.toNat*7+7<=TH.length:=by simpa using hL 7 (Nat.le_refl _)
     have aBQ:List.take 7 (List.drop (mK.toNat*7) TH)=Operator.cells x95:=hD;clear hC hL hD hI;rcases au h with⟨K8,h⟩|⟨K8,h⟩
     ·refine dz ?_
      refine zZ (f:=Operator.cells) (id:=w97) (o:=mK.toNat*7+6) (i:=mK.toNat) (j:=6) (a:=x95) (y:=(Operator.mk x95.text x95.fix x95.low x95.high x95.left x95.least 4)) (vs:=[(.int .i64 4)]) eH ark (by omega) (by repeat (first|exact xL|apply aO.new|refine aO.put ?_ (fun hm=>by have:=aO.lt xL _ hm;omega))) e96 eH rfl rfl (by first|decide|(simp only [List.length_cons,List.length_nil];omega)) rfl (fun aBR arl ZM ak2=> ?_);have le:=ZM.1;try simp only [AH.aF,AH.aG,AH.aH,AH.aI]at le
      refine dz ?_
      refine hK _ _ ?_;exact ih z8 wF M (mO.set mK.toNat (Operator.mk x95.text x95.fix x95.low x95.high x95.left x95.least 4)) JA (IntKind.wrap .i64 (mK+1)) _ _ _ _ aM (by repeat (first|exact hf0|refine HF.new ?_|refine HF.oG ?_|refine HF.used ?_|refine HF.put (by first|(right;omega)|(left;simp only [List.mem_cons,true_or,or_true])) ?_|refine HF.via ZM Da ?_)) eH (by repeat (first|exact arl|apply aO.new|refine aO.put ?_ (fun hm=>by have:=aO.lt arl _ hm;omega))) Da _ h _ q0
     ·refine dz ?_
      refine hK _ _ ?_;exact ih z8 wF M mO JA (IntKind.wrap .i64 (mK+1)) _ _ _ _ aM oo eH (by repeat (first|exact xL|apply aO.new|refine aO.put ?_ (fun hm=>by have:=aO.lt xL _ hm;omega))) Da _ h _ q0
    ·cases h;refine dz ?_
     exact q0 _ z8 wF _ _ rfl aM oo eH (by repeat (first|exact xL|apply aO.new|refine aO.put ?_ (fun hm=>by have:=aO.lt xL _ hm;omega))) Da
def FT (k:Nat):Option (List Operator):=
  Option.bind (wD k 4 4 [([126]:Str)]) fun p2=>Option.bind (wD k 4 15 [([69,78,65,66,76,69,68]:Str),([85,78,67,72,65,78,71,69,68]:Str),([91,93]:Str),([60,62]:Str)]) fun p4=>Option.bind (wD k 8 8 [([83,85,66,83,69,84]:Str),([85,78,73,79,78]:Str)]) fun p6=>Option.bind (wD k 9 9 [([68,79,77,65,73,78]:Str)]) fun p8=>Option.bind (wD k 12 12 [([45,46]:Str)]) fun jo=>Option.bind (gI k 1 1 false [([61,62]:Str)]) fun lW=>Option.bind (gI k 2 2 false [([60,61,62]:Str),([126,62]:Str)]) fun jq=>Option.bind (gI k 3 3 true [([47,92]:Str),([92,47]:Str)]) fun p16=>Option.bind (gI k 5 5 false [([61]:Str),([35]:Str),([60]:Str),([60,61]:Str),([62]:Str),([62,61]:Str),([92,105,110]:Str),([92,110,111,116,105,110]:Str),([92,115,117,98,115,101,116,101,113]:Str),([92,115,113,115,117,98,115,101,116,101,113]:Str)]) fun sj=>Option.bind (gI k 6 6 true [([64,64]:Str)]) fun mR=>Option.bind (gI k 7 7 false [([58,62]:Str)]) fun Gn=>Option.bind (gI k 5 14 true [([92,99,100,111,116]:Str)]) fun mg=>Option.bind (gI k 8 8 true [([92,99,117,112]:Str),([92,99,97,112]:Str)]) fun p26=>Option.bind (gI k 8 8 false [([92]:Str)]) fun p28=>Option.bind (gI k 9 9 false [([46,46]:Str)]) fun p30=>Option.bind (gI k 10 10 true [([43]:Str),([40,43,41]:Str)]) fun p32=>Option.bind (gI k 10 11 false [([37]:Str)]) fun p34=>Option.bind (gI k 10 13 false [([92,88]:Str)]) fun p36=>Option.bind (gI k 11 11 true [([45]:Str),([40,45,41]:Str)]) fun p38=>Option.bind (gI k 13 13 true [([42]:Str)]) fun p40=>Option.bind (gI k 13 13 false [([92,100,105,118]:Str)]) fun p42=>Option.bind (gI k 13 13 true [([92,111]:Str)]) fun p44=>Option.bind (gI k 14 14 false [([94]:Str)]) fun p46=>Option.bind (rC k 0 [p2,p4,p6,p8,jo,lW,jq,p16,sj,mR,Gn,mg,p26,p28,p30,p32,p34,p36,p38,p40,p42,p44,p46,[(Operator.mk ([39]:Str) 2 15 15 false 1 1)]] 0) (fun p55=>if 0<p55/\p55<=1000000 then Option.bind (rD k ([]:List Operator) [p2,p4,p6,p8,jo,lW,jq,p16,sj,mR,Gn,mg,p26,p28,p30,p32,p34,p36,p38,p40,p42,p44,p46,[(Operator.mk ([39]:Str) 2 15 15 false 1 1)]] 0) (fun p83=>Option.bind (xK k p83 (p83.length:Int) 0) (fun arn=>some arn))else none)
theorem ahF {k:Nat} {r:List Operator} (h:FT k=some r):aC Tryz.prog 65 [] (.aB (r.map Operator.cells) .unk):=by
  refine aC.aP (bn.mem .nil) (aK awN (by simp) (aD ?_)) (bC Operator.pu _);unfold FT at h;unfold apU;obtain⟨p2,e1,h⟩:=aj h;refine dz ?_
  refine av (yR e1) ?_;obtain⟨p4,e3,h⟩:=aj h;refine dz ?_
  refine av (yR e3) ?_;obtain⟨p6,e5,h⟩:=aj h;refine dz ?_
  refine av (yR e5) ?_;obtain⟨p8,e7,h⟩:=aj h;refine dz ?_
  refine av (yR e7) ?_;obtain⟨jo,e9,h⟩:=aj h;refine dz ?_
  refine av (yR e9) ?_;obtain⟨lW,e11,h⟩:=aj h;refine dz ?_
  refine av (fH e11) ?_;obtain⟨jq,e13,h⟩:=aj h;refine dz ?_
  refine av (fH e13) ?_;obtain⟨p16,e15,h⟩:=aj h;refine dz ?_
  refine av (fH e15) ?_;obtain⟨sj,e17,h⟩:=aj h;refine dz ?_
  refine av (fH e17) ?_;obtain⟨mR,e19,h⟩:=aj h;refine dz ?_
  refine av (fH e19) ?_;obtain⟨Gn,e21,h⟩:=aj h;refine dz ?_
  refine av (fH e21) ?_;obtain⟨mg,e23,h⟩:=aj h;refine dz ?_
  refine av (fH e23) ?_;obtain⟨p26,e25,h⟩:=aj h;refine dz ?_
  refine av (fH e25) ?_;obtain⟨p28,e27,h⟩:=aj h;refine dz ?_
  refine av (fH e27) ?_;obtain⟨p30,e29,h⟩:=aj h;refine dz ?_
  refine av (fH e29) ?_;obtain⟨p32,e31,h⟩:=aj h;refine dz ?_
  refine av (fH e31) ?_;obtain⟨p34,e33,h⟩:=aj h;refine dz ?_
  refine av (fH e33) ?_;obtain⟨p36,e35,h⟩:=aj h;refine dz ?_
  refine av (fH e35) ?_;obtain⟨p38,e37,h⟩:=aj h;refine dz ?_
  refine av (fH e37) ?_;obtain⟨p40,e39,h⟩:=aj h;refine dz ?_
  refine av (fH e39) ?_;obtain⟨p42,e41,h⟩:=aj h;refine dz ?_
  refine av (fH e41) ?_;obtain⟨p44,e43,h⟩:=aj h;refine dz ?_
  refine av (fH e43) ?_;obtain⟨p46,e45,h⟩:=aj h;refine dz ?_
  refine av (fH e45) ?_;refine dz ?_
  refine aK atF (by simp) (aD ?_);unfold ak8;refine dz ?_
  obtain⟨o53,h54,h⟩:=aj h;refine P5 k 0 [p2,p4,p6,p8,jo,lW,jq,p16,sj,mR,Gn,mg,p26,p28,p30,p32,p34,p36,p38,p40,p42,p44,p46,[(Operator.mk ([39]:Str) 2 15 15 false 1 1)]] 0 .exact _ _ _ (Fr.refl _ _) eH _ h54 _ ?_
  ·rintro p55 σ' eo aqj s59;rw [eo]at h;have s60:σ' 0=(.aB ([p2,p4,p6,p8,jo,lW,jq,p16,sj,mR,Gn,mg,p26,p28,p30,p32,p34,p36,p38,p40,p42,p44,p46,[(Operator.mk ([39]:Str) 2 15 15 false 1 1)]].map (Nf Operator.cells)) .exact):=(aqj 0 (by decide)).trans eH;obtain⟨e61,h⟩:=aL h;refine dz ?_
   refine arh (f:=Operator.cells) (xs:=([]:List Operator)) (ahC p55 e61) (fun v62 al7 H64 r65 aBS axI ajf=> ?_);have le:=axI.1;try simp only [AH.aF,AH.aG,AH.aH,AH.aI]at le
   refine dz ?_
   obtain⟨o81,h82,h⟩:=aj h;refine P6 k v62 al7 (al7++[]) ([]:List Operator) [p2,p4,p6,p8,jo,lW,jq,p16,sj,mR,Gn,mg,p26,p28,p30,p32,p34,p36,p38,p40,p42,p44,p46,[(Operator.mk ([39]:Str) 2 15 15 false 1 1)]] 0 .exact _ _ _ _ (Fr.refl _ _) (HF.refl _ _) eH (by repeat (first|exact r65|apply aO.new|refine aO.put ?_ (fun hm=>by have:=aO.lt r65 _ hm;omega))) (fun i hi=>Or.inl (by simp only [List.mem_append,List.mem_cons,hi,true_or,or_true])) _ h82 _ ?_
   ·rintro p83 v87 al8 σ' H86 eo aBT axJ s91 r89 aBU;rw [eo]at h;have le:=axJ.1;try simp only [AH.aF,AH.aG,AH.aH,AH.aI]at le
    have w92:=aO.axC r89;refine dz ?_
    obtain⟨o111,h112,h⟩:=aj h;refine abF k v87 al8 (al8++[]) p83 (p83.length:Int) 0 _ _ _ _ (Fr.refl _ _) (HF.refl _ _) eH (by repeat (first|exact r89|apply aO.new|refine aO.put ?_ (fun hm=>by have:=aO.lt r89 _ hm;omega))) (fun i hi=>Or.inl (by simp only [List.mem_append,List.mem_cons,hi,true_or,or_true])) _ h112 _ ?_
    ·rintro arn v117 azX σ' axG eo aAP aur aBV arp aAQ;rw [eo]at h;have le:=aur.1;try simp only [AH.aF,AH.aG,AH.aH,AH.aI]at le
     cases h;refine dz ?_
     exact(aO.fz Operator.pu (by repeat (first|exact arp|apply aO.new|refine aO.put ?_ (fun hm=>by have:=aO.lt arp _ hm;omega))))
end Go.VL
end
section
namespace Go.VL
open Go.Proofs Go.RowKit
def oO:List Operator:=(FT 100).getD []
theorem ahG:FT 100=some oO:=by
  have h:(FT 100).isSome=true:=by kernel_rfl
  rw [oO];cases h1:FT 100 with
  |none=>rw [h1]at h;cases h
  |some r=>rfl
theorem arq:aC Tryz.prog 65 [] (.aB (oO.map Operator.cells) .unk):=ahF ahG
end Go.VL
end
section
set_option maxHeartbeats 4000000
namespace Go.VL
open Go.Proofs
def kS (k:Nat) (jE:Str):Option (Operator×Bool):=
  Option.bind (fB k oO jE) fun p2=>cond (decide (p2<0)) (some ((Operator.mk [] 0 0 0 false 0 0),false)) (if 0<=p2 then Option.bind (oO[p2.toNat]?) fun x5=>some (x5,true)else none)
theorem qm {k:Nat} {jE:Str} {r:Operator×Bool} (h:kS k jE=some r):aC Tryz.prog 63 [(.str jE)] (.dR [(.agg (Operator.cells r.1)),(.bool r.2)]):=by
  refine aC.aP (bn.mem (.cons (.str _) .nil)) (aK awL (by simp) (aD ?_)) (.dR _ (bn.mem (.cons (.agg _ (Operator.pu _)) (.cons (.bool _) .nil))));unfold kS at h;unfold apS;refine ah ?_
  refine av (arq) ?_;obtain⟨p2,e1,h⟩:=aj h;refine ah ?_
  refine Nc (q9 e1) (.cons (jB Operator.pu _ _) (.cons (atp (.cons (aoM ak (.cons (.pure _ (.str _)) .nil)) .nil)) .nil)) (.cons (bC Operator.pu _) (.cons (.fn _ _ _ (bn.mem .nil) (bn.mem (.cons (.eP _ _ (bn.mem (.cons (.str _) .nil))) .nil))) .nil)) (.int _ _) ?_;rcases au h with⟨e3,h⟩|⟨e3,h⟩
  ·cases h;refine ah ?_
   exact(dJ (.cons (dN (.cons (.pure _ (.str _)) (aN (aN (aN (.cons (.pure _ (.bool _)) (aN (aN .nil)))))))) (.cons (.pure _ (.bool _)) .nil)))
  ·obtain⟨e4,h⟩:=aL h;obtain⟨x5,e6,h⟩:=aj h;cases h;refine ah ?_
   exact(dJ (.cons (dN (.cons (.pure _ (.str _)) (aN (aN (aN (.cons (.pure _ (.bool _)) (aN (aN .nil)))))))) (.cons (.pure _ (.bool _)) .nil)))
def Ph (x_0:Int) (y_1:Int):Option (Int×Int):=
  if(0<=x_0/\x_0<18446744073709551616)/\(0<=y_1/\y_1<18446744073709551616)then some ((Pg x_0 y_1).1,(Pg x_0 y_1).2)else none
theorem aek {x_0:Int} {y_1:Int} {r:Int×Int} (h:Ph x_0 y_1=some r):aC Tryz.prog 147 [(.int .u64 x_0),(.int .u64 y_1)] (.dR [(.int .u64 r.1),(.int .u64 r.2)]):=by
  refine aC.aP (bn.mem (.cons (.int _ _) (.cons (.int _ _) .nil))) (aK atV (by simp) (aD ?_)) (.dR _ (bn.mem (.cons (.int _ _) (.cons (.int _ _) .nil))));unfold Ph at h;unfold alq;obtain⟨e1,h⟩:=aL h;refine ah ?_
  refine av (anp x_0 y_1 (by assumption)) ?_;cases h;refine ah ?_
  exact(dJ (aN (aN .nil)))
end Go.VL
end
section
namespace Go.VL
open Go.Proofs Go.RowKit
theorem kF {P:Program} {K:(Nat->PV)->AH->Prop} {σ:Nat->PV} {H:AH} {d:Option Nat} {k:RK} {l:List (aQ×Bool)} (p:PV) (h: ∀H',rop k σ H'=some p)
    (hn:iZ P (fun _=>True) l K (upd σ d p) H):iZ P (fun _=>True) ((⟨d,.r k,none⟩,false)::l) K σ H:=by
  unfold iZ;refine .inr ⟨trivial,p,fun H' _=> ?_,hn⟩;show(match rop k σ H' with|some q=>(q=p/\H'=H')|none=>False)
  rw [h H'];exact⟨rfl,rfl⟩
theorem abG: ∀l:List PV,(l.map fun c=>[c]).flatten=l
  |[]=>rfl
  |a::l=>by rw [List.map_cons,List.flatten_cons,abG l];rfl
theorem TI (l rest:List PV):chunks 1 l.length (l++rest)=l.map fun c=>[c]:=by
  have h:=GD (sz:=1) (l.map fun c=>[c]) rest (by simp);rw [List.length_map,abG]at h;exact h
theorem wG (x:PV): ∀m,(List.replicate m [x]).flatten=List.replicate m x
  |0=>rfl
  |m+1=>by rw [List.replicate_succ,List.flatten_cons,wG x m];rfl
theorem ars (x:Int) (id n:Nat) (H0:AH) (Q:Post) (hn:n<=1000000)
    (hx: ∀σ' H',σ' 7= .dQ id 0 n n 1->H'.obj id=some (List.replicate n (.int .i64 x))->H'.next=H0.next->(∀i,i≠id->H'.obj i=H0.obj i)->(∀k,H'.live k=H0.live k)->Q (.exit 0) σ' H'):
    ∀(d m:Nat) (σ:Nat->PV) (H:AH) (rest:List PV),n -m<=d->m<=n->(m=0->n=0)->σ 7= .dQ id 0 n n 1->σ 8= .int .i64 m->H.obj id=some (List.replicate m (.int .i64 x)++rest)->rest.length=n -m->
      H.next=H0.next->(∀i,i≠id->H.obj i=H0.obj i)->(∀k,H.live k=H0.live k)->W Tryz.prog (.loop OZ) Q σ H:=by
  intro d
  induction d with
  |zero=>
    intro m σ H rest hd hm h0 h7 h8 ho hr h1 h2 h3;have e:m=n:=by omega
    subst e;have c1:decide ((m:Int)<(m:Int))=false:=decide_eq_false (by omega);refine bf (fun K hK=>aD ?_);unfold OZ;simp -implicitDefEqProofs only [go_sem,h7,h8,c1];have hr0:rest=[]:=List.eq_nil_of_length_eq_zero (by omega);subst hr0;refine hx _ _ ?_ (by rw [ho,List.append_nil]) h1 h2 h3;simp only [mV,Nat.reduceEqDiff,↓reduceIte,h7]
  |succ d ih=>
    intro m σ H rest hd hm h0 h7 h8 ho hr h1 h2 h3;by_cases hmn:m=n
    · exact ih m σ H rest (by omega) hm h0 h7 h8 ho hr h1 h2 h3
    have c1:decide ((m:Int)<(n:Int))=true:=decide_eq_true (by omega);refine bf (fun K hK=>aD ?_);unfold OZ;simp -implicitDefEqProofs only [go_sem,h7,h8,c1];refine⟨fun _=>True,trivial,?_⟩;refine kF (.int .i64 m) (fun H'=>by simp [rop,AE.ev,upd,h7,h8]) ?_;refine kF (.dQ id 0 n n 1) (fun H'=>by simp [rop,AE.ev,upd,h7,h8]) ?_;refine kF (.int .i64 m) (fun H'=>by simp [rop,AE.ev,upd,h7,h8]) ?_;refine kF (.dQ id m (n -m) (n -m) 1) (fun H'=>by simp [rop,AE.ev,upd,tX,om,h7,h8];omega) ?_;refine kF (.dQ id 0 n n 1) (fun H'=>by simp [rop,AE.ev,upd,h7,h8]) ?_;refine kF (.int .i64 m) (fun H'=>by simp [rop,AE.ev,upd,h7,h8]) ?_;refine kF (.dQ id 0 m n 1) (fun H'=>by simp [rop,AE.ev,upd,tX,om,h7,h8];omega) ?_;have hch:chunks 1 m (List.replicate m (.int .i64 x)++rest)=List.replicate m [.int .i64 x]:=by
      have h:=TI (List.replicate m (.int .i64 x)) rest;rw [List.length_replicate,List.map_replicate]at h;exact h
    unfold iZ;refine .inr ⟨trivial,.int .i64 (min m (n -m):Nat),H.put id (List.replicate (m+min m (n -m)) (.int .i64 x)++rest.drop (min m (n -m))),?_,trivial,?_⟩
    · have hy:rowOf 1 H (PV.dQ id 0 m n 1)=some (List.replicate m [.int .i64 x]):=by
        have hl:0+m*1<=(List.replicate m (PV.int .i64 x)++rest).length:=by rw [List.length_append,List.length_replicate];omega
        simp only [rowOf,ho];rw [if_pos ⟨trivial,hl⟩,List.drop_zero,hch]
      have hsz:qN 1 (List.replicate m [PV.int .i64 x]):=fun cs hcs=>by
        rw [(List.mem_replicate.1 hcs).2];exact⟨rfl,fun c hc=>by rw [List.mem_singleton.1 hc];rfl⟩
      have hle:m+(n -m)*1<=(List.replicate m (PV.int .i64 x)++rest).length:=by rw [List.length_append,List.length_replicate];omega
      have hput:putCells (List.replicate m (PV.int .i64 x)++rest) m ((List.replicate m [PV.int .i64 x]).take (n -m)).flatten=List.replicate (m+min m (n -m)) (.int .i64 x)++rest.drop (min m (n -m)):=by
        rw [List.take_replicate,wG];unfold putCells;rw [List.length_replicate];have e1:(List.replicate m (PV.int .i64 x)++rest).take m=List.replicate m (PV.int .i64 x):=by
          rw [List.take_append_of_le_length (by rw [List.length_replicate];omega),List.take_of_length_le (by rw [List.length_replicate];omega)]
        have e2:(List.replicate m (PV.int .i64 x)++rest).drop (m+min (n -m) m)=rest.drop (min m (n -m)):=by
          rw [List.drop_append,List.length_replicate,List.drop_eq_nil_of_le (by rw [List.length_replicate];omega),List.nil_append];congr 1
          omega
        rw [e1,e2,List.replicate_append_replicate,Nat.min_comm m]
      simp only [jN,nop,AE.ev,mV,Nat.reduceEqDiff,↓reduceIte,hy];simp only [ho];rw [if_pos ⟨trivial,hsz,hle⟩];refine⟨?_,by rw [hput]⟩;rw [List.length_replicate]
    · have hm2:(m:Int)+((min m (n -m):Nat):Int)=((m+min m (n -m):Nat):Int):=by omega
      have hw:IntKind.wrap .i64 ((m:Int)+((min m (n -m):Nat):Int))=((m+min m (n -m):Nat):Int):=by
        rw [hm2];exact IntWalk.i64_in _ (by omega)
      unfold iZ;refine dB ?_;simp -implicitDefEqProofs only [go_sem,h7,h8,hw];refine hK _ _ (ih (m+min m (n -m)) _ _ (rest.drop (min m (n -m))) (by omega) (by omega) (by omega) ?_ ?_ ?_ (by rw [List.length_drop];omega) h1 ?_ h3)
      · simp only [mV,Nat.reduceEqDiff,↓reduceIte,h7]
      · simp only [mV,Nat.reduceEqDiff,↓reduceIte]
      · show(if id=id then some _ else _)=_
        rw [if_pos rfl]
      · intro i hi;show(if i=id then some _ else _)=_
        rw [if_neg hi];exact h2 i hi
section
variable {P:Program} {Q:Post} {σ:Nat->PV} {s:List Fm} {H:AH}
theorem aru {d:Option Nat} {x y:AE} {l:List aQ} {k k':IntKind} {n:Nat} (hx:x.ev σ= .int k n) (hy:y.ev σ= .int k' n) (hb:n<=1000000)
    (h:WO P l s Q (upd σ d (.dQ H.next 0 n n 1)) (H.new (List.replicate n (.int .i64 0)))):WO P (⟨d,.d (.tV 1 8 [.int .i64 0] x y),none⟩::l) s Q σ H:=by
  show WD P (ni (.tV 1 8 [.int .i64 0] x y) σ H) d l s Q σ
  simp only [ni,hx,hy];rw [if_pos ⟨by omega,by omega,by omega,by omega,rfl,by decide⟩];rw [Int.toNat_natCast,wG];exact h
theorem ael {d:Option Nat} {x y:AE} {l:List aQ} {id off len cap sz:Nat} {fs:List (List PV)} {cs:List PV} (hx:x.ev σ= .dQ id off len cap sz) (hy:rowOf sz H (y.ev σ)=some fs) (ho:H.obj id=some cs)
    (hsz:qN sz fs) (hle:off+len*sz<=cs.length)
    (h:WO P l s Q (upd σ d (.int .i64 (min fs.length len:Nat))) (H.put id (putCells cs off (fs.take len).flatten))):WO P (⟨d,.n (.copy sz x y),none⟩::l) s Q σ H:=by
  show dD P _ _ σ H
  rw [SX];simp only [nop,hx,hy,ho];rw [if_pos ⟨trivial,hsz,hle⟩];exact h
end
theorem aus (x:Int) (n:Int) (hn:0<=n/\n<=1000000):Le Tryz.prog 94 [.aB [[.int .i64 x]] .exact,.int .i64 n] bD 1 (List.replicate n.toNat x):=by
  intro H;obtain⟨n,rfl⟩: ∃k:Nat,n=k:=⟨n.toNat,by omega⟩;refine aK aw0 (by simp) (aD ?_);unfold aqa;have c1:decide ((n:Int)<0)=false:=decide_eq_false (by omega);have c2:IntKind.wrap .u64 1=1:=by decide
  have c3:IntKind.wrap .u64 (n:Int)=n:=IntWalk.u64_in _ (by omega);have c4:IntKind.wrap .i64 (n:Int)=n:=IntWalk.i64_in _ (by omega);have hm:Ph 1 n=some ((0:Int),(n:Int)):=by
    unfold Ph Pg;rw [if_pos ⟨⟨by omega,by omega⟩,by omega,by omega⟩];have e1:((1:Int).toNat*((n:Nat):Int).toNat/18446744073709551616:Nat)=0:=by
      rw [Int.toNat_natCast];show(1*n)/_=0;omega
    have e2:((1:Int).toNat*((n:Nat):Int).toNat% 18446744073709551616:Nat)=n:=by
      rw [Int.toNat_natCast];show(1*n)% _=n;omega
    rw [e1,e2];rfl
  have hc:=aek hm;have d1:decide ((n:Int)>9223372036854775807)=false:=decide_eq_false (by omega);unfold ad5 ad6;simp -implicitDefEqProofs only [go_sem,c1,c2,c3,c4,d1];refine dU.mono (hc H) fun v H' hv=> ?_;obtain⟨rfl,rfl⟩:=hv;have d0:decide ((0:Int)>0)=false:=by decide
  simp -implicitDefEqProofs only [go_sem,c1,c2,c3,c4,d0,d1];refine aru (k:= .i64) (k':= .i64) (n:=n) (by simp only [go_sem]) (by simp only [go_sem]) (by omega) ?_;have hob:(H'.new (List.replicate n (PV.int .i64 0))).obj H'.next=some (List.replicate n (PV.int .i64 0)):=by
    show(if H'.next=H'.next then some _ else _)=_
    rw [if_pos rfl]
  simp -implicitDefEqProofs only [go_sem]
  refine ael (id:=H'.next) (off:=0) (len:=n) (cap:=n) (fs:=[[.int .i64 x]]) (cs:=List.replicate n (.int .i64 0)) (by simp only [go_sem]) (by simp only [go_sem];rfl) hob
    (by intro cs hcs;rw [List.mem_singleton.1 hcs];exact⟨rfl,fun c hc=>by rw [List.mem_singleton.1 hc];rfl⟩) (by rw [List.length_replicate];omega) ?_
  have hput:putCells (List.replicate n (PV.int .i64 0)) 0 (([[PV.int .i64 x]]:List (List PV)).take n).flatten=List.replicate (min 1 n) (.int .i64 x)++List.replicate (n -min 1 n) (.int .i64 0):=by
    cases n with
    |zero=>rfl
    |succ n=>
      have e:min 1 (n+1)=1:=by omega
      rw [e,List.take_of_length_le (by simp)];simp [putCells,List.replicate_succ]
  rw [hput];have e1:(min ([[PV.int .i64 x]]:List (List PV)).length n:Nat)=min 1 n:=rfl;rw [e1];simp -implicitDefEqProofs only [go_sem];have afR: ∀cs:List PV,(((H'.new (List.replicate n (PV.int .i64 0))).put H'.next cs).obj H'.next)=some cs:=fun cs=>by
    show(if H'.next=H'.next then some _ else _)=_
    rw [if_pos rfl]
  refine ars x H'.next n ((H'.new (List.replicate n (PV.int .i64 0)))) _ (by omega) (fun σ' H2 k7 ko kn kob kl=> ?_) n (min 1 n) _ _ (List.replicate (n -min 1 n) (.int .i64 0)) (by omega) (by omega) (by omega) ?_ ?_ (afR _) (by rw [List.length_replicate]) rfl
    (fun i hi=> ?_) (fun k=>rfl)
  · show WE Tryz.prog (.exit 0) _ _ σ' H2
    simp -implicitDefEqProofs only [go_sem,k7];refine⟨[H'.next],.inr ⟨H'.next,n,[],rfl,by rw [List.length_replicate],by rw [List.length_replicate];omega,by rw [kn];exact Nat.lt_succ_self _,?_,?_⟩,fun i hi=> .inr (by rw [List.mem_singleton.1 hi];exact Nat.le_refl _),⟨by rw [kn];exact Nat.le_succ _,fun i hi _=> ?_⟩,fun c3 hc=> ?_⟩
    · rw [ko,List.append_nil,List.map_replicate];exact congrArg some (wG (PV.int .i64 x) n).symm
    · rw [List.length_replicate];simp
    · rw [kob i (by omega)];show(if i=H'.next then some _ else _)=_
      rw [if_neg (by omega)]
    · cases c3 with
      |unk=>exact hc
      |tok t=>exact⟨by rw [kl];exact hc.1,by rw [kn];exact Nat.lt_succ_of_lt hc.2⟩
      |nil=>trivial
      |exact=>trivial
  · simp only [mV,Nat.reduceEqDiff,↓reduceIte]
  · simp only [mV,Nat.reduceEqDiff,↓reduceIte]
  · show(if i=H'.next then some _ else _)=_
    rw [if_neg hi]
def J6 (l:List Int) (n:Int):List Int:=List.replicate n.toNat (l.headD 0)
theorem arx (l:List Int) (n:Int) (h:l.length=1/\0<=n/\n<=1000000):Le Tryz.prog 94 [.aB (l.map bD) .exact,.int .i64 n] bD 1 (J6 l n):=by
  match l,h with
  |[x],h=>exact aus x n h.2
end Go.VL
end
section
set_option maxHeartbeats 4000000
namespace Go.VL
open Go.Proofs
def nW:Nat->(List Int)->(List Int)->Int->(List Int)->Int->Int->Option (((List Int)×(List Int)))
  |0,_,_,_,_,_,_=>none
  |k+1,vC,kM,lJ,jw,kr,gD=>
    cond (decide (gD<kr)) (if 0<=gD then Option.bind (jw[gD.toNat]?) fun x21=>if 0<=x21 then Option.bind (vC[x21.toNat]?) fun x24=>Option.bind (kM[x21.toNat]?) fun x41=>nW k (vC.set x21.toNat lJ) (kM.set x21.toNat gD) lJ jw kr (IntKind.wrap .i64 (gD+1))else none else none) (some ((vC,kM)))
def Mj:List Nat:=[8,9]++List.range' 27 14
theorem Xq: ∀(k:Nat) (rE:PV) (ku:List Nat) (kG:PV) (gM:List Nat) (M:List Nat) (vC:List Int) (kM:List Int) (lJ:Int) (jw:List Int) (kr:Int) (gD:Int) (aA σ:Nat->PV) (H0 H:AH) (f0:Fr Mj aA σ) (hf0:HF M H0 H) (sl:σ 4=rE/\σ 5=kG/\σ 6=(.int .i64 lJ)/\σ 25=(.aB (jw.map bD) .unk)/\σ 26=(.int .i64 kr)/\σ 27=(.int .i64 gD)) (rF:aO H bD 1 vC rE ku) (qW:Nw H0 M ku) (lN:aO H bD 1 kM kG gM) (lu:Nw H0 M gM) (gX:Dj ku gM) (o:((List Int)×(List Int))) (h:nW k vC kM lJ jw kr gD=some o) (Q:Post) (q0: ∀(p:(List Int)×(List Int)) (v0:PV) (uo:List Nat) (v1:PV) (RP:List Nat) (σ':Nat->PV) (H':AH),o=p->Fr Mj aA σ'->HF M H0 H'->(σ' 4=v0/\σ' 5=v1)->aO H' bD 1 p.1 v0 uo->Nw H0 M uo->aO H' bD 1 p.2 v1 RP->Nw H0 M RP->Dj uo RP->Q (.exit 2) σ' H'),W Tryz.prog (.loop Vx) Q σ H:=by
  intro k
  induction k with
  |zero=>intro rE ku kG gM M vC kM lJ jw kr gD aA σ H0 H f0 hf0 sl rF qW lN lu gX o h Q q0;simp only [nW,reduceCtorEq]at h
  |succ k ih=>
    intro rE ku kG gM M vC kM lJ jw kr gD aA σ H0 H f0 hf0 sl rF qW lN lu gX o h Q q0;obtain⟨s4,s5,s6,s25,s26,s27⟩:=sl;have hle0:=hf0.1;unfold nW at h;refine bf (fun K hK=>aD ?_);unfold Vx;rcases au h with⟨e19,h⟩|⟨e19,h⟩
    ·obtain⟨e20,h⟩:=aL h;obtain⟨x21,e22,h⟩:=aj h;obtain⟨e23,h⟩:=aL h;obtain⟨x24,e25,h⟩:=aj h;obtain⟨w26,w27,arz,hil,w28,hC,hL,hD,hI⟩:=aO.content rF e25;have w29:=ne_next hil;have w30:=aR hil;have w31:qL 1 rE (.int .i64 x21)=some (.ref w26 (x21.toNat)):=by simpa using hI .i64 x21 (by first|omega|decide) (by first|rfl|omega)
     have aAR:w27[x21.toNat]? =some (.int .i64 x24):=by simpa using hC 0 _ rfl
     clear hC hL hD hI;refine dz ?_
     refine zZ (f:=bD) (id:=w26) (o:=x21.toNat) (i:=x21.toNat) (j:=0) (a:=x24) (y:=lJ) (vs:=[(.int .i64 lJ)]) eH arz (by omega) (by repeat (first|exact rF|apply aO.new|refine aO.put ?_ (fun hm=>by have:=aO.lt rF _ hm;omega))) e25 eH rfl rfl (by first|decide|(simp only [List.length_cons,List.length_nil];omega)) rfl (fun H34 r35 RQ axK=> ?_);have le:=RQ.1;try simp only [AH.aF,AH.aG,AH.aH,AH.aI]at le
     have r39:=aO.hf (by repeat (first|exact lN|apply aO.new|refine aO.put ?_ (fun hm=>by have:=aO.lt lN _ hm;omega))) RQ (Dj.symm gX);obtain⟨x41,e42,h⟩:=aj h;obtain⟨w43,w44,arB,hil,w45,hC,hL,hD,hI⟩:=aO.content r39 e42;have w46:=ne_next hil;have w47:=aR hil;have w48:qL 1 kG (.int .i64 x21)=some (.ref w43 (x21.toNat)):=by simpa using hI .i64 x21 (by first|omega|decide) (by first|rfl|omega)
     have aAS:w44[x21.toNat]? =some (.int .i64 x41):=by simpa using hC 0 _ rfl
     clear hC hL hD hI;refine dz ?_
     refine zZ (f:=bD) (id:=w43) (o:=x21.toNat) (i:=x21.toNat) (j:=0) (a:=x41) (y:=gD) (vs:=[(.int .i64 gD)]) eH arB (by omega) (by repeat (first|exact r39|apply aO.new|refine aO.put ?_ (fun hm=>by have:=aO.lt r39 _ hm;omega))) e42 eH rfl rfl (by first|decide|(simp only [List.length_cons,List.length_nil];omega)) rfl (fun H51 r52 ajG aje=> ?_);have le:=ajG.1;try simp only [AH.aF,AH.aG,AH.aH,AH.aI]at le
     have r56:=aO.hf (by repeat (first|exact r35|apply aO.new|refine aO.put ?_ (fun hm=>by have:=aO.lt r35 _ hm;omega))) ajG gX;refine dz ?_
     refine hK _ _ ?_;exact ih rE ku kG gM M (vC.set x21.toNat lJ) (kM.set x21.toNat gD) lJ jw kr (IntKind.wrap .i64 (gD+1)) _ _ _ _ aM (by repeat (first|exact hf0|refine HF.new ?_|refine HF.oG ?_|refine HF.used ?_|refine HF.put (by first|(right;omega)|(left;simp only [List.mem_cons,true_or,or_true])) ?_|refine HF.via RQ qW ?_|refine HF.via ajG lu ?_)) eH (by repeat (first|exact r56|apply aO.new|refine aO.put ?_ (fun hm=>by have:=aO.lt r56 _ hm;omega))) qW (by repeat (first|exact r52|apply aO.new|refine aO.put ?_ (fun hm=>by have:=aO.lt r52 _ hm;omega))) lu gX _ h _ q0
    ·cases h;refine dz ?_
     exact q0 _ rE ku kG gM _ _ rfl aM oo eH (by repeat (first|exact rF|apply aO.new|refine aO.put ?_ (fun hm=>by have:=aO.lt rF _ hm;omega))) qW (by repeat (first|exact lN|apply aO.new|refine aO.put ?_ (fun hm=>by have:=aO.lt lN _ hm;omega))) lu gX
def nX:Nat->(List Int)->(List Int)->(List Nd)->Int->Int->Option (((List Int)×(List Int)))
  |0,_,_,_,_,_=>none
  |k+1,vC,kM,Lg,Lh,Db=>
    cond (decide (Db<Lh)) (if 0<=Db then Option.bind (Lg[Db.toNat]?) fun CB=>Option.bind (nW k vC kM Db CB.args (CB.args.length:Int) 0) (fun p60=>nX k p60.1 p60.2 Lg Lh (IntKind.wrap .i64 (Db+1)))else none) (some ((vC,kM)))
def Ml:List Nat:=[6,7,8,9]++List.range' 19 23
theorem Xr: ∀(k:Nat) (rE:PV) (ku:List Nat) (kG:PV) (gM:List Nat) (M:List Nat) (vC:List Int) (kM:List Int) (Lg:List Nd) (Lh:Int) (Db:Int) (aA σ:Nat->PV) (H0 H:AH) (f0:Fr Ml aA σ) (hf0:HF M H0 H) (sl:σ 4=rE/\σ 5=kG/\σ 17=(.aB (Lg.map Nd.cells) .unk)/\σ 18=(.int .i64 Lh)/\σ 19=(.int .i64 Db)) (rF:aO H bD 1 vC rE ku) (qW:Nw H0 M ku) (lN:aO H bD 1 kM kG gM) (lu:Nw H0 M gM) (gX:Dj ku gM) (o:((List Int)×(List Int))) (h:nX k vC kM Lg Lh Db=some o) (Q:Post) (q0: ∀(p:(List Int)×(List Int)) (v0:PV) (uo:List Nat) (v1:PV) (RP:List Nat) (σ':Nat->PV) (H':AH),o=p->Fr Ml aA σ'->HF M H0 H'->(σ' 4=v0/\σ' 5=v1)->aO H' bD 1 p.1 v0 uo->Nw H0 M uo->aO H' bD 1 p.2 v1 RP->Nw H0 M RP->Dj uo RP->Q (.exit 0) σ' H'),W Tryz.prog (.loop Vy) Q σ H:=by
  intro k
  induction k with
  |zero=>intro rE ku kG gM M vC kM Lg Lh Db aA σ H0 H f0 hf0 sl rF qW lN lu gX o h Q q0;simp only [nX,reduceCtorEq]at h
  |succ k ih=>
    intro rE ku kG gM M vC kM Lg Lh Db aA σ H0 H f0 hf0 sl rF qW lN lu gX o h Q q0;obtain⟨s4,s5,s17,qB,qM⟩:=sl;have hle0:=hf0.1;unfold nX at h;refine bf (fun K hK=>aD ?_);unfold Vy;rcases au h with⟨e15,h⟩|⟨e15,h⟩
    ·obtain⟨e16,h⟩:=aL h;obtain⟨CB,e18,h⟩:=aj h;refine dz ?_
     rw [KZ];refine dz ?_
     obtain⟨o58,h59,h⟩:=aj h;refine Xq k rE ku kG gM (ku++(gM++[])) vC kM Db CB.args (CB.args.length:Int) 0 _ _ _ _ (Fr.refl _ _) (HF.refl _ _) eH (by repeat (first|exact rF|apply aO.new|refine aO.put ?_ (fun hm=>by have:=aO.lt rF _ hm;omega))) (fun i hi=>Or.inl (by simp only [List.mem_append,List.mem_cons,hi,true_or,or_true])) (by repeat (first|exact lN|apply aO.new|refine aO.put ?_ (fun hm=>by have:=aO.lt lN _ hm;omega))) (fun i hi=>Or.inl (by simp only [List.mem_append,List.mem_cons,hi,true_or,or_true])) gX _ h59 _ ?_
     ·rintro p60 v64 aut v69 auu σ' H63 eo afS arD ⟨s68,s73⟩ r66 axL r71 axM axN;rw [eo]at h;have s75:σ' 17=(.aB (Lg.map Nd.cells) .unk):=(afS 17 (by decide)).trans eH;have s76:σ' 18=(.int .i64 Lh):=(afS 18 (by decide)).trans eH;have s77:σ' 19=(.int .i64 Db):=(afS 19 (by decide)).trans eH;have le:=arD.1;try simp only [AH.aF,AH.aG,AH.aH,AH.aI]at le
      refine dz ?_
      refine hK _ _ ?_;exact ih v64 aut v69 auu M p60.1 p60.2 Lg Lh (IntKind.wrap .i64 (Db+1)) _ _ _ _ (by repeat (first|exact f0|refine Fr.upd (by decide) ?_|refine Fr.via afS (by decide) ?_)) (by repeat (first|exact hf0|refine HF.new ?_|refine HF.oG ?_|refine HF.used ?_|refine HF.put (by first|(right;omega)|(left;simp only [List.mem_cons,true_or,or_true])) ?_|refine HF.via arD (List.forall_mem_append.2 ⟨qW,(List.forall_mem_append.2 ⟨lu,(fun _ h=>absurd h List.not_mem_nil)⟩)⟩) ?_)) eH (by repeat (first|exact r66|apply aO.new|refine aO.put ?_ (fun hm=>by have:=aO.lt r66 _ hm;omega))) (Nw.via (List.forall_mem_append.2 ⟨qW,(List.forall_mem_append.2 ⟨lu,(fun _ h=>absurd h List.not_mem_nil)⟩)⟩) bJ axL) (by repeat (first|exact r71|apply aO.new|refine aO.put ?_ (fun hm=>by have:=aO.lt r71 _ hm;omega))) (Nw.via (List.forall_mem_append.2 ⟨qW,(List.forall_mem_append.2 ⟨lu,(fun _ h=>absurd h List.not_mem_nil)⟩)⟩) bJ axM) axN _ h _ q0
    ·cases h;refine dz ?_
     exact q0 _ rE ku kG gM _ _ rfl aM oo eH (by repeat (first|exact rF|apply aO.new|refine aO.put ?_ (fun hm=>by have:=aO.lt rF _ hm;omega))) qW (by repeat (first|exact lN|apply aO.new|refine aO.put ?_ (fun hm=>by have:=aO.lt lN _ hm;omega))) lu gX
def Aa (k:Nat) (aJ:List Nd):Option ((List Int)×(List Int)):=
  if [(-1)].length=1/\0<=(aJ.length:Int)/\(aJ.length:Int)<=1000000 then if 0<=(aJ.length:Int)/\(aJ.length:Int)<=1099511627776/\8*(aJ.length:Int)<=1099511627776 then Option.bind (nX k (J6 [(-1)] (aJ.length:Int):List Int) (List.replicate aJ.length 0) aJ (aJ.length:Int) 0) (fun Bb=>some (Bb.1,Bb.2))else none else none
theorem adz {k:Nat} {aJ:List Nd} {c0:Ck} {r:(List Int)×(List Int)} (h:Aa k aJ=some r):aC Tryz.prog 50 [(.aB (aJ.map Nd.cells) c0)] (.dR [(.aB (r.1.map bD) .unk),(.aB (r.2.map bD) .unk)]):=by
  refine aC.lw (.aB .nil) (aC.aP (bn.mem (.cons (bC Nd.pu _) .nil)) (aK awz (by simp) (aD ?_)) (.dR _ (bn.mem (.cons (bC iO _) (.cons (bC iO _) .nil)))));unfold Aa at h;unfold apF;obtain⟨e13,h⟩:=aL h;obtain⟨e14,h⟩:=aL h;refine dz ?_
  refine anu (ahB (a:=3) (b:=6) (f:=bD) (sz:=1) (xs:=(J6 [(-1)] (aJ.length:Int):List Int)) (g:=bD) (sz2:=1) (ys:=(List.replicate aJ.length 0)) (fun x y i=>match i with|0=>(.aB ([(-1)].map bD) .exact)|1=>(.aB (aJ.map Nd.cells) .unk)|2=>(.int .i64 (aJ.length:Int))|3=>x|4=>(.aB (aJ.map Nd.cells) .unk)|5=>(.int .i64 (aJ.length:Int))|6=>y|7=>x|_=>ud) rfl (by decide) rfl rfl (fun _ _=>rfl) (fun _ _=>rfl) (by
    intro x x' y i h1 h2;rcases i with _|i
    · first|rfl|exact absurd rfl h1|exact absurd h2 (by decide)
    rcases i with _|i
    · first|rfl|exact absurd rfl h1|exact absurd h2 (by decide)
    rcases i with _|i
    · first|rfl|exact absurd rfl h1|exact absurd h2 (by decide)
    rcases i with _|i
    · first|rfl|exact absurd rfl h1|exact absurd h2 (by decide)
    rcases i with _|i
    · first|rfl|exact absurd rfl h1|exact absurd h2 (by decide)
    rcases i with _|i
    · first|rfl|exact absurd rfl h1|exact absurd h2 (by decide)
    rcases i with _|i
    · first|rfl|exact absurd rfl h1|exact absurd h2 (by decide)
    rcases i with _|i
    · first|rfl|exact absurd rfl h1|exact absurd h2 (by decide)
    rfl) (by
    intro x y y' i h1 h2;rcases i with _|i
    · first|rfl|exact absurd rfl h1|exact absurd h2 (by decide)
    rcases i with _|i
    · first|rfl|exact absurd rfl h1|exact absurd h2 (by decide)
    rcases i with _|i
    · first|rfl|exact absurd rfl h1|exact absurd h2 (by decide)
    rcases i with _|i
    · first|rfl|exact absurd rfl h1|exact absurd h2 (by decide)
    rcases i with _|i
    · first|rfl|exact absurd rfl h1|exact absurd h2 (by decide)
    rcases i with _|i
    · first|rfl|exact absurd rfl h1|exact absurd h2 (by decide)
    rcases i with _|i
    · first|rfl|exact absurd rfl h1|exact absurd h2 (by decide)
    rcases i with _|i
    · first|rfl|exact absurd rfl h1|exact absurd h2 (by decide)
    rfl) (by
    intro x y;refine⟨.inr ⟨rfl,fun H=>by(try simp -implicitDefEqProofs only [jN,fO,evs,List.map,List.nil_append,List.append_nil,go_sem]);first|done|exact⟨rfl,rfl⟩⟩,?_⟩;refine⟨.inr ⟨rfl,fun H=>by(try simp -implicitDefEqProofs only [jN,fO,evs,List.map,List.nil_append,List.append_nil,go_sem]);first|done|exact⟨rfl,rfl⟩⟩,?_⟩;refine⟨.inr ⟨rfl,fun H=>by(try simp -implicitDefEqProofs only [jN,fO,evs,List.map,List.nil_append,List.append_nil,go_sem]);first|done|exact⟨rfl,rfl⟩⟩,?_⟩;refine⟨.inl rfl,?_⟩;refine⟨.inr ⟨rfl,fun H=>by(try simp -implicitDefEqProofs only [jN,fO,evs,List.map,List.nil_append,List.append_nil,go_sem]);first|done|exact⟨rfl,rfl⟩⟩,?_⟩;refine⟨.inr ⟨rfl,fun H=>by(try simp -implicitDefEqProofs only [jN,fO,evs,List.map,List.nil_append,List.append_nil,go_sem]);first|done|exact⟨rfl,rfl⟩⟩,?_⟩;refine⟨.inl rfl,?_⟩;refine⟨.inr ⟨rfl,fun H=>by(try simp -implicitDefEqProofs only [jN,fO,evs,List.map,List.nil_append,List.append_nil,go_sem]);first|done|exact⟨rfl,rfl⟩⟩,?_⟩;exact trivial) (fun y H=>⟨trivial,ant (arx [(-1)] (aJ.length:Int) e13) (by simp -implicitDefEqProofs only [fO,evs,List.map,List.nil_append,List.append_nil,go_sem])⟩) (fun x H=>⟨trivial,anr (f:=bD) (k:= .i64) (k':= .i64) (n:=(aJ.length:Int)) 0 rfl (by simp -implicitDefEqProofs only [fO,evs,List.map,List.nil_append,List.append_nil,go_sem]) (by simp -implicitDefEqProofs only [fO,evs,List.map,List.nil_append,List.append_nil,go_sem]) e14 (by decide)⟩) (fun v1 v8 arE arF H3 r4 r10 axO nw5 aBW hf6 ok7=> ?_))
  simp only [fO,List.length_cons,List.length_nil,Nat.reduceAdd];have le:=hf6.1;try simp only [AH.aF,AH.aG,AH.aH,AH.aI]at le
  refine dz ?_
  obtain⟨o78,h79,h⟩:=aj h;refine Xr k v1 arE v8 arF (arE++(arF++[])) (J6 [(-1)] (aJ.length:Int):List Int) (List.replicate aJ.length 0) aJ (aJ.length:Int) 0 _ _ _ _ (Fr.refl _ _) (HF.refl _ _) eH (by repeat (first|exact r4|apply aO.new|refine aO.put ?_ (fun hm=>by have:=aO.lt r4 _ hm;omega))) (fun i hi=>Or.inl (by simp only [List.mem_append,List.mem_cons,hi,true_or,or_true])) (by repeat (first|exact r10|apply aO.new|refine aO.put ?_ (fun hm=>by have:=aO.lt r10 _ hm;omega))) (fun i hi=>Or.inl (by simp only [List.mem_append,List.mem_cons,hi,true_or,or_true])) axO _ h79 _ ?_
  ·rintro Bb v84 aAT v89 aAU σ' H83 eo Li ajH ⟨s88,s93⟩ r86 aBX r91 aBY aBZ;rw [eo]at h;have le:=ajH.1;try simp only [AH.aF,AH.aG,AH.aH,AH.aI]at le
   cases h;refine dz ?_
   exact(dJ (.cons (aO.fz iO (by repeat (first|exact r86|apply aO.new|refine aO.put ?_ (fun hm=>by have:=aO.lt r86 _ hm;omega)))) (.cons (aO.fz iO (by repeat (first|exact r91|apply aO.new|refine aO.put ?_ (fun hm=>by have:=aO.lt r91 _ hm;omega)))) .nil)))
end Go.VL
end
section
namespace Go.VL
open Go.Proofs Go.RowKit
set_option maxRecDepth 100000
theorem ahI:Enters Tryz.prog 141:=⟨_,Tryz.func141,rfl,by kernel_rfl⟩
theorem ajI:ZI Tryz.prog 141 1 false:=by
  intro l m bx n J Jx W hn hc hY h0;refine callsIn_of_wp Tryz.func141 rfl trivial ?_ rfl;simp only [Tryz.ntmps141,List.size_toArray,List.length_cons,List.length_nil,Nat.reduceAdd,Nat.reduceSub,Array.replicate_succ,Array.replicate_zero,List.push_toArray,List.append_toArray,List.nil_append,List.cons_append];obtain⟨ad0,cap0,hc0⟩:=hc
  gi_wp2
  gi_loopw [3] (fun v3 wr=> ∃k:Nat,v3= .int .i64 ((k:Int) -1)/\k<=n/\J k wr) (fun v3 wr=>(RowKit.intOf v3+1).toNat)
  case atStart=>exact⟨n,rfl,Nat.le_refl _,h0⟩
  case round=>
    obtain⟨k,rfl,hk,hJ⟩:=hrel;cases k with
    |zero=>
      have c1: ¬(0:Int)<=((0:Nat):Int) -1:=by omega
      gi_wp2
      go_end0
      exact⟨⟨_,rfl⟩,.inl hJ⟩
    |succ k=>
      obtain⟨b,o,cap,vs,hb,hkn,hvs,hld,fn,tmps,assign,body,hy,hR⟩:=hY k wr hJ;have e1:((k+1:Nat):Int) -1=(k:Int):=by omega
      rw [e1];have c1:(0:Int)<=(k:Int):=by omega
      have c2:(k:Int)<(n:Int):=by omega
      have aB0:wr.cell? ⟨b,o+k,none⟩=some (elemV false vs):=by
        have:=hld 0 (elemV false vs) (by simp [elemV,hvs]);simpa using this
      clear hld;generalize elemV false vs=v at*
      gi_wp2
      refine⟨fun hd=>absurd hd (by simp [Fence.wide]),(adi hR).mono ?_⟩;rintro e W' (⟨rfl,hJ'⟩|⟨rfl,hJx⟩)
      · gi_wp2
        go_roundw
        case rel=>exact⟨k,rfl,by omega,hJ'⟩
        case measure=>simp [RowKit.intOf]
      · gi_wp2
        refine bodyPost_ret (results_none rfl _ _ _) rfl ?_;exact⟨⟨_,rfl⟩,.inr hJx⟩
end Go.VL
end
section
set_option maxHeartbeats 4000000
namespace Go.VL
open Go.Proofs
def wH (bF:Int):Option Bool:=
  cond (bF==1) (some ((bF==1))) (some ((bF==2)))
theorem Xt: ∀(bF:Int) (aA σ:Nat->PV) (H:AH) (f0:Fr [15,16,17] aA σ) (sl:σ 11=(.int .i64 bF)) (o:Bool) (h:wH bF=some o) (Q:Post) (q0: ∀(p:Bool) (σ':Nat->PV),o=p->Fr [15,16,17] aA σ'->(σ' 15=(.bool p))->Q .normal σ' H),W Tryz.prog Wi Q σ H:=by
  intro bF aA σ H f0 sl o h Q q0;have s11:=sl;unfold wH at h;refine aD ?_;unfold Wi;rcases au h with⟨e2,h⟩|⟨e2,h⟩
  ·cases h;refine ah ?_
   exact q0 _ _ rfl aM ak
  ·cases h;refine ah ?_
   exact q0 _ _ rfl aM ak
def Bt (bF:Int):Option Bool:=
  cond (bF==4) (some ((bF==4))) (some ((bF==5)))
theorem Xu: ∀(bF:Int) (aA σ:Nat->PV) (H:AH) (f0:Fr [38,39,40] aA σ) (sl:σ 11=(.int .i64 bF)) (o:Bool) (h:Bt bF=some o) (Q:Post) (q0: ∀(p:Bool) (σ':Nat->PV),o=p->Fr [38,39,40] aA σ'->(σ' 38=(.bool p))->Q .normal σ' H),W Tryz.prog Wj Q σ H:=by
  intro bF aA σ H f0 sl o h Q q0;have s11:=sl;unfold Bt at h;refine aD ?_;unfold Wj;rcases au h with⟨e20,h⟩|⟨e20,h⟩
  ·cases h;refine ah ?_
   exact q0 _ _ rfl aM ak
  ·cases h;refine ah ?_
   exact q0 _ _ rfl aM ak
def Bu (bF:Int):Option Bool:=
  cond (bF==6) (some ((bF==6))) (some ((bF==12)))
theorem Xv: ∀(bF:Int) (aA σ:Nat->PV) (H:AH) (f0:Fr [43,44,45] aA σ) (sl:σ 11=(.int .i64 bF)) (o:Bool) (h:Bu bF=some o) (Q:Post) (q0: ∀(p:Bool) (σ':Nat->PV),o=p->Fr [43,44,45] aA σ'->(σ' 43=(.bool p))->Q .normal σ' H),W Tryz.prog Wm Q σ H:=by
  intro bF aA σ H f0 sl o h Q q0;have s11:=sl;unfold Bu at h;refine aD ?_;unfold Wm;rcases au h with⟨e33,h⟩|⟨e33,h⟩
  ·cases h;refine ah ?_
   exact q0 _ _ rfl aM ak
  ·cases h;refine ah ?_
   exact q0 _ _ rfl aM ak
def Bv (bF:Int):Option Bool:=
  cond (bF==7) (some ((bF==7))) (cond (bF==8) (some ((bF==8))) (cond (bF==9) (some ((bF==9))) (some ((bF==13)))))
def Mq:List Nat:=[48,49,50,51,52]
theorem Xw: ∀(bF:Int) (aA σ:Nat->PV) (H:AH) (f0:Fr Mq aA σ) (sl:σ 11=(.int .i64 bF)) (o:Bool) (h:Bv bF=some o) (Q:Post) (q0: ∀(p:Bool) (σ':Nat->PV),o=p->Fr Mq aA σ'->(σ' 48=(.bool p))->Q .normal σ' H),W Tryz.prog Wn Q σ H:=by
  intro bF aA σ H f0 sl o h Q q0;have s11:=sl;unfold Bv at h;refine aD ?_;unfold Wn;rcases au h with⟨e48,h⟩|⟨e48,h⟩
  ·cases h;refine ah ?_
   exact q0 _ _ rfl aM ak
  ·rcases au h with⟨e49,h⟩|⟨e49,h⟩
   ·cases h;refine ah ?_
    exact q0 _ _ rfl aM ak
   ·rcases au h with⟨e50,h⟩|⟨e50,h⟩
    ·cases h;refine ah ?_
     exact q0 _ _ rfl aM ak
    ·cases h;refine ah ?_
     exact q0 _ _ rfl aM ak
def Bw (bF:Int):Option Bool:=
  cond (bF==10) (some ((bF==10))) (some ((bF==11)))
theorem Xx: ∀(bF:Int) (aA σ:Nat->PV) (H:AH) (f0:Fr [60,61,62] aA σ) (sl:σ 11=(.int .i64 bF)) (o:Bool) (h:Bw bF=some o) (Q:Post) (q0: ∀(p:Bool) (σ':Nat->PV),o=p->Fr [60,61,62] aA σ'->(σ' 60=(.bool p))->Q .normal σ' H),W Tryz.prog Wo Q σ H:=by
  intro bF aA σ H f0 sl o h Q q0;have s11:=sl;unfold Bw at h;refine aD ?_;unfold Wo;rcases au h with⟨e63,h⟩|⟨e63,h⟩
  ·cases h;refine ah ?_
   exact q0 _ _ rfl aM ak
  ·cases h;refine ah ?_
   exact q0 _ _ rfl aM ak
def Bz (bF:Int):Option Bool:=
  cond (bF==16) (some ((bF==16))) (some ((bF==17)))
theorem Xy: ∀(bF:Int) (aA σ:Nat->PV) (H:AH) (f0:Fr [70,71,72] aA σ) (sl:σ 11=(.int .i64 bF)) (o:Bool) (h:Bz bF=some o) (Q:Post) (q0: ∀(p:Bool) (σ':Nat->PV),o=p->Fr [70,71,72] aA σ'->(σ' 70=(.bool p))->Q .normal σ' H),W Tryz.prog Wp Q σ H:=by
  intro bF aA σ H f0 sl o h Q q0;have s11:=sl;unfold Bz at h;refine aD ?_;unfold Wp;rcases au h with⟨Qo,h⟩|⟨Qo,h⟩
  ·cases h;refine ah ?_
   exact q0 _ _ rfl aM ak
  ·cases h;refine ah ?_
   exact q0 _ _ rfl aM ak
def BA (bF:Int):Option Bool:=
  cond (bF==19) (some ((bF==19))) (some ((bF==21)))
theorem Xz: ∀(bF:Int) (aA σ:Nat->PV) (H:AH) (f0:Fr [82,83,84] aA σ) (sl:σ 11=(.int .i64 bF)) (o:Bool) (h:BA bF=some o) (Q:Post) (q0: ∀(p:Bool) (σ':Nat->PV),o=p->Fr [82,83,84] aA σ'->(σ' 82=(.bool p))->Q .normal σ' H),W Tryz.prog Wq Q σ H:=by
  intro bF aA σ H f0 sl o h Q q0;have s11:=sl;unfold BA at h;refine aD ?_;unfold Wq;rcases au h with⟨Tg,h⟩|⟨Tg,h⟩
  ·cases h;refine ah ?_
   exact q0 _ _ rfl aM ak
  ·cases h;refine ah ?_
   exact q0 _ _ rfl aM ak
def Ab (k:Nat) (bR:Nd):Option Shape:=
  cond (bR.kind==0) (some (Shape.mk (0,0) (0,0) false true)) (Option.bind (wH bR.kind) (fun p5=>cond p5 (some (Shape.mk (0,0) (0,0) true false)) (cond (bR.kind==3) (Option.bind (kS k bR.text) fun sj=>cond sj.2 (some (Shape.mk (0,0) ((bR.args.length:Int),(bR.args.length:Int)) true false)) (some (Shape.mk (0,0) (1,4) true false))) (Option.bind (Bt bR.kind) (fun EO=>cond EO (some (Shape.mk (0,0) (0,30) false false)) (Option.bind (Bu bR.kind) (fun p36=>cond p36 (Option.bind (uX 1 2) fun p47=>some p47) (Option.bind (Bv bR.kind) (fun p53=>cond p53 (some (Shape.mk (1,4) ((IntKind.wrap .i64 ((bR.names.length:Int)+1)),(IntKind.wrap .i64 ((bR.names.length:Int)+1))) false false)) (Option.bind (Bw bR.kind) (fun p66=>cond p66 (some (Shape.mk (1,4) (1,1) false false)) (cond (bR.kind==14) (some (Shape.mk (0,0) (2,5) false false)) (Option.bind (Bz bR.kind) (fun Bb=>cond Bb (some (Shape.mk (1,30) ((bR.names.length:Int),(bR.names.length:Int)) false false)) (cond (bR.kind==18) (some (Shape.mk (0,0) (1,1) true false)) (Option.bind (BA bR.kind) (fun Yq=>cond Yq (Option.bind (uX 0 3) fun aaW=>some aaW) (cond (bR.kind==20) (some (Shape.mk (0,0) (0,0) false false)) (cond (bR.kind==22) (some (Shape.mk (0,0) (2,30) false false)) (cond (bR.kind==23) (some (Shape.mk (1,5) (2,2) false true)) (cond (bR.kind==24) (some (Shape.mk (1,4) (1,1) false false)) (Option.bind (uX 0 2) fun arG=>some arG))))))))))))))))))))))
theorem adA {k:Nat} {bR:Nd} {r:Shape} (h:Ab k bR=some r):aC Tryz.prog 90 [(.agg (Nd.cells bR))] (.agg (Shape.cells r)):=by
  refine aC.aP (bn.mem (.cons (.agg _ (Nd.pu _)) .nil)) (aK awW (by simp) (aD ?_)) (.agg _ (Shape.pu _));unfold Ab at h;unfold ap6;rcases au h with⟨e1,h⟩|⟨e1,h⟩
  ·cases h;refine ah ?_
   exact(dN (aN (aN (aN (aN (.cons (.pure _ (.bool _)) (.cons (.pure _ (.bool _)) .nil)))))))
  ·refine ah ?_
   obtain⟨o3,h4,h⟩:=aj h;refine Xt bR.kind _ _ _ (Fr.refl _ _) ak _ h4 _ ?_
   ·rintro p5 σ' eo fr6 s9;rw [eo]at h;have s10:σ' 1=(.ref (AH.empty.next) 0):=(fr6 1 (by decide)).trans ak;have s11:σ' 2=(.ref (AH.empty.next+1) 0):=(fr6 2 (by decide)).trans ak;have s12:σ' 3=(.fn (.func 140) [] []):=(fr6 3 (by decide)).trans ak;have s13:σ' 4=(.int .i64 (bR.names.length:Int)):=(fr6 4 (by decide)).trans ak;have s14:σ' 11=(.int .i64 bR.kind):=(fr6 11 (by decide)).trans ak;rcases au h with⟨e15,h⟩|⟨e15,h⟩
    ·cases h;refine ah ?_
     exact(dN (aN (aN (aN (aN (.cons (.pure _ (.bool _)) (.cons (.pure _ (.bool _)) .nil)))))))
    ·rcases au h with⟨e16,h⟩|⟨e16,h⟩
     ·obtain⟨sj,e17,h⟩:=aj h;refine ah ?_
      refine av (qm e17) ?_;rcases au h with⟨e19,h⟩|⟨e19,h⟩
      ·cases h;refine ah ?_
       exact(dN (aN (aN (aN (aN (.cons (.pure _ (.bool _)) (.cons (.pure _ (.bool _)) .nil)))))))
      ·cases h;refine ah ?_
       exact(dN (aN (aN (aN (aN (.cons (.pure _ (.bool _)) (.cons (.pure _ (.bool _)) .nil)))))))
     ·refine ah ?_
      obtain⟨o21,h22,h⟩:=aj h;refine Xu bR.kind _ _ _ (Fr.refl _ _) ak _ h22 _ ?_
      ·rintro EO σ' eo XA s27;rw [eo]at h;have s28:σ' 2=(.ref (AH.empty.next+1) 0):=(XA 2 (by decide)).trans ak;have s29:σ' 3=(.fn (.func 140) [] []):=(XA 3 (by decide)).trans ak;have s30:σ' 4=(.int .i64 (bR.names.length:Int)):=(XA 4 (by decide)).trans ak;have s31:σ' 11=(.int .i64 bR.kind):=(XA 11 (by decide)).trans ak;rcases au h with⟨e32,h⟩|⟨e32,h⟩
       ·cases h;refine ah ?_
        exact(dN (aN (aN (aN (aN (.cons (.pure _ (.bool _)) (.cons (.pure _ (.bool _)) .nil)))))))
       ·refine ah ?_
        obtain⟨o34,h35,h⟩:=aj h;refine Xv bR.kind _ _ _ (Fr.refl _ _) ak _ h35 _ ?_
        ·rintro p36 σ' eo afT s40;rw [eo]at h;have s41:σ' 2=(.ref (AH.empty.next+1) 0):=(afT 2 (by decide)).trans ak;have s42:σ' 3=(.fn (.func 140) [] []):=(afT 3 (by decide)).trans ak;have s43:σ' 4=(.int .i64 (bR.names.length:Int)):=(afT 4 (by decide)).trans ak;have s44:σ' 11=(.int .i64 bR.kind):=(afT 11 (by decide)).trans ak;rcases au h with⟨e45,h⟩|⟨e45,h⟩
         ·obtain⟨p47,e46,h⟩:=aj h;refine ah ?_
          refine av (EF e46) ?_;cases h;refine ah ?_
          exact(dN (aN (aN (aN (aN (.cons (.pure _ (.bool _)) (.cons (.pure _ (.bool _)) .nil)))))))
         ·refine ah ?_
          obtain⟨o51,h52,h⟩:=aj h;refine Xw bR.kind _ _ _ (Fr.refl _ _) ak _ h52 _ ?_
          ·rintro p53 σ' eo K6 s57;rw [eo]at h;have s58:σ' 2=(.ref (AH.empty.next+1) 0):=(K6 2 (by decide)).trans ak;have s59:σ' 3=(.fn (.func 140) [] []):=(K6 3 (by decide)).trans ak;have s60:σ' 4=(.int .i64 (bR.names.length:Int)):=(K6 4 (by decide)).trans ak;have s61:σ' 11=(.int .i64 bR.kind):=(K6 11 (by decide)).trans ak;rcases au h with⟨e62,h⟩|⟨e62,h⟩
           ·cases h;refine ah ?_
            exact(dN (aN (aN (aN (aN (.cons (.pure _ (.bool _)) (.cons (.pure _ (.bool _)) .nil)))))))
           ·refine ah ?_
            obtain⟨o64,h65,h⟩:=aj h;refine Xx bR.kind _ _ _ (Fr.refl _ _) ak _ h65 _ ?_
            ·rintro p66 σ' eo NS s70;rw [eo]at h;have s71:σ' 2=(.ref (AH.empty.next+1) 0):=(NS 2 (by decide)).trans ak;have s72:σ' 3=(.fn (.func 140) [] []):=(NS 3 (by decide)).trans ak;have s73:σ' 4=(.int .i64 (bR.names.length:Int)):=(NS 4 (by decide)).trans ak;have s74:σ' 11=(.int .i64 bR.kind):=(NS 11 (by decide)).trans ak;rcases au h with⟨Tc,h⟩|⟨Tc,h⟩
             ·cases h;refine ah ?_
              exact(dN (aN (aN (aN (aN (.cons (.pure _ (.bool _)) (.cons (.pure _ (.bool _)) .nil)))))))
             ·rcases au h with⟨Yp,h⟩|⟨Yp,h⟩
              ·cases h;refine ah ?_
               exact(dN (aN (aN (aN (aN (.cons (.pure _ (.bool _)) (.cons (.pure _ (.bool _)) .nil)))))))
              ·refine ah ?_
               obtain⟨o78,h79,h⟩:=aj h;refine Xy bR.kind _ _ _ (Fr.refl _ _) ak _ h79 _ ?_
               ·rintro Bb σ' eo Li s84;rw [eo]at h;have s85:σ' 2=(.ref (AH.empty.next+1) 0):=(Li 2 (by decide)).trans ak;have s86:σ' 3=(.fn (.func 140) [] []):=(Li 3 (by decide)).trans ak;have s87:σ' 4=(.int .i64 (bR.names.length:Int)):=(Li 4 (by decide)).trans ak;have s88:σ' 11=(.int .i64 bR.kind):=(Li 11 (by decide)).trans ak;rcases au h with⟨Te,h⟩|⟨Te,h⟩
                ·cases h;refine ah ?_
                 exact(dN (aN (aN (aN (aN (.cons (.pure _ (.bool _)) (.cons (.pure _ (.bool _)) .nil)))))))
                ·rcases au h with⟨Tf,h⟩|⟨Tf,h⟩
                 ·cases h;refine ah ?_
                  exact(dN (aN (aN (aN (aN (.cons (.pure _ (.bool _)) (.cons (.pure _ (.bool _)) .nil)))))))
                 ·refine ah ?_
                  obtain⟨o92,h93,h⟩:=aj h;refine Xz bR.kind _ _ _ (Fr.refl _ _) ak _ h93 _ ?_
                  ·rintro Yq σ' eo ajJ s98;rw [eo]at h;have s99:σ' 2=(.ref (AH.empty.next+1) 0):=(ajJ 2 (by decide)).trans ak;have ajt:σ' 3=(.fn (.func 140) [] []):=(ajJ 3 (by decide)).trans ak;have axE:σ' 11=(.int .i64 bR.kind):=(ajJ 11 (by decide)).trans ak;rcases au h with⟨aaZ,h⟩|⟨aaZ,h⟩
                   ·obtain⟨aaW,K8,h⟩:=aj h;refine ah ?_
                    refine av (EF K8) ?_;cases h;refine ah ?_
                    exact(dN (aN (aN (aN (aN (.cons (.pure _ (.bool _)) (.cons (.pure _ (.bool _)) .nil)))))))
                   ·rcases au h with⟨Nq,h⟩|⟨Nq,h⟩
                    ·cases h;refine ah ?_
                     exact(dN (aN (aN (aN (aN (.cons (.pure _ (.bool _)) (.cons (.pure _ (.bool _)) .nil)))))))
                    ·rcases au h with⟨ajl,h⟩|⟨ajl,h⟩
                     ·cases h;refine ah ?_
                      exact(dN (aN (aN (aN (aN (.cons (.pure _ (.bool _)) (.cons (.pure _ (.bool _)) .nil)))))))
                     ·rcases au h with⟨GH,h⟩|⟨GH,h⟩
                      ·cases h;refine ah ?_
                       exact(dN (aN (aN (aN (aN (.cons (.pure _ (.bool _)) (.cons (.pure _ (.bool _)) .nil)))))))
                      ·rcases au h with⟨e108,h⟩|⟨e108,h⟩
                       ·cases h;refine ah ?_
                        exact(dN (aN (aN (aN (aN (.cons (.pure _ (.bool _)) (.cons (.pure _ (.bool _)) .nil)))))))
                       ·obtain⟨arG,e109,h⟩:=aj h;refine ah ?_
                        refine av (EF e109) ?_;cases h;refine ah ?_
                        exact(dN (aN (aN (aN (aN (.cons (.pure _ (.bool _)) (.cons (.pure _ (.bool _)) .nil)))))))
def pY:Nat->(List Nd)->(List Int)->(List Int)->Int->Option (Unit⊕Bool)
  |0,_,_,_,_=>none
  |k+1,aJ,wI,mF,II=>
    if 0<=II then Option.bind (wI[II.toNat]?) fun YC=>cond (YC !=(-1)) (if 0<=YC then Option.bind (aJ[YC.toNat]?) fun x20=>cond (x20.kind==19) (Option.bind (mF[II.toNat]?) fun x23=>cond (x23==2) (some (.inr (false))) (pY k aJ wI mF YC)) (pY k aJ wI mF YC)else none) (some (.inl ()))else none
def GN:List Nat:=[8,11]++List.range' 51 25
theorem Zq: ∀(k:Nat) (aJ:List Nd) (wI:List Int) (mF:List Int) (II:Int) (aA σ:Nat->PV) (H:AH) (f0:Fr GN aA σ) (sl:σ 0=(.aB (aJ.map Nd.cells) .unk)/\σ 2=(.aB (wI.map bD) .unk)/\σ 3=(.aB (mF.map bD) .unk)/\σ 11=(.int .i64 II)) (o:Unit⊕Bool) (h:pY k aJ wI mF II=some o) (Q:Post) (q0: ∀(p:Unit) (σ':Nat->PV),o= .inl p->Fr GN aA σ'->Q (.exit 1) σ' H) (q1: ∀(p:Bool) (σ':Nat->PV),o= .inr (p)->Fr GN aA σ'->(σ' 8=(.bool p))->Q .ret σ' H),W Tryz.prog (.loop Vz) Q σ H:=by
  intro k
  induction k with
  |zero=>intro aJ wI mF II aA σ H f0 sl o h Q q0 q1;simp only [pY,reduceCtorEq]at h
  |succ k ih=>
    intro aJ wI mF II aA σ H f0 sl o h Q q0 q1;obtain⟨s0,s2,s3,s11⟩:=sl;unfold pY at h;refine bf (fun K hK=>aD ?_);unfold Vz;obtain⟨e15,h⟩:=aL h;obtain⟨YC,e17,h⟩:=aj h;rcases au h with⟨e18,h⟩|⟨e18,h⟩
    ·obtain⟨e19,h⟩:=aL h;obtain⟨x20,e21,h⟩:=aj h;rcases au h with⟨e22,h⟩|⟨e22,h⟩
     ·obtain⟨x23,e24,h⟩:=aj h;rcases au h with⟨e25,h⟩|⟨e25,h⟩
      ·cases h;refine ah ?_
       exact q1 _ _ rfl aM ak
      ·refine ah ?_
       refine hK _ _ ?_;exact ih aJ wI mF YC _ _ _ aM ak _ h _ q0 q1
     ·refine ah ?_
      refine hK _ _ ?_;exact ih aJ wI mF YC _ _ _ aM ak _ h _ q0 q1
    ·cases h;refine ah ?_
     exact q0 _ _ rfl aM
def GQ (k:Nat) (aJ:List Nd) (dP:Int) (wI:List Int) (mF:List Int):Option Bool:=
  if 0<=dP then Option.bind (aJ[dP.toNat]?) fun x2=>cond (x2.kind==24) (Option.bind (wI[dP.toNat]?) fun x5=>cond (x5==(-1)) (some true) (if 0<=x5 then Option.bind (aJ[x5.toNat]?) fun x9=>cond (x9.kind !=3) (some true) (Option.bind (kS k x9.text) fun yG=>some yG.2)else none)) (cond (x2.kind==20) (Option.bind (pY k aJ wI mF dP) (fun o=>Sum.elim (fun p28=>some true) (fun p32=>some p32) o)) (some false))else none
theorem afU {k:Nat} {aJ:List Nd} {dP:Int} {wI:List Int} {mF:List Int} {c0 c2 c3:Ck} {r:Bool} (h:GQ k aJ dP wI mF=some r):aC Tryz.prog 51 [(.aB (aJ.map Nd.cells) c0),(.int .i64 dP),(.aB (wI.map bD) c2),(.aB (mF.map bD) c3)] (.bool r):=by
  refine aC.lw (.aB (.same (.aB (.aB .nil)))) (aC.aP (bn.mem (.cons (bC Nd.pu _) (.cons (.int _ _) (.cons (bC iO _) (.cons (bC iO _) .nil))))) (aK awC (by simp) (aD ?_)) (.bool _));unfold GQ at h;unfold apG;obtain⟨e1,h⟩:=aL h;obtain⟨x2,e3,h⟩:=aj h;rcases au h with⟨e4,h⟩|⟨e4,h⟩
  ·obtain⟨x5,e6,h⟩:=aj h;rcases au h with⟨e7,h⟩|⟨e7,h⟩
   ·cases h;refine ah ?_
    exact(.pure _ (.bool _))
   ·obtain⟨e8,h⟩:=aL h;obtain⟨x9,e10,h⟩:=aj h;rcases au h with⟨e11,h⟩|⟨e11,h⟩
    ·cases h;refine ah ?_
     exact(.pure _ (.bool _))
    ·obtain⟨yG,e12,h⟩:=aj h;refine ah ?_
     refine av (qm e12) ?_;cases h;refine ah ?_
     exact(.pure _ (.bool _))
  ·rcases au h with⟨e14,h⟩|⟨e14,h⟩
   ·refine ah ?_
    obtain⟨o26,h27,h⟩:=aj h;refine Zq k aJ wI mF dP _ _ _ (Fr.refl _ _) ak _ h27 _ ?_ ?_
    ·rintro p28 σ' eo WM;subst eo;rw [bZ]at h;cases h;refine ah ?_
     exact(.pure _ (.bool _))
    ·rintro p32 σ' eo vB s36;subst eo;rw [dn]at h;cases h;refine ah ?_
     exact(.pure _ (.bool _))
   ·cases h;refine ah ?_
    exact(.pure _ (.bool _))
def wJ (k:Nat) (s_0:Str):Option Bool:=
  Option.bind (oK k s_0) fun p2=>some (!p2)
theorem XB {k:Nat} {s_0:Str} {r:Bool} (h:wJ k s_0=some r):aC Tryz.prog 145 [(.str s_0)] (.bool r):=by
  refine aC.aP (bn.mem (.cons (.str _) .nil)) (aK atT (by simp) (aD ?_)) (.bool _);unfold wJ at h;unfold alo;obtain⟨p2,e1,h⟩:=aj h;refine ah ?_
  refine av (rA e1) ?_;cases h;refine ah ?_
  exact(.pure _ (.bool _))
def bN:Nat->(List Str)->Int->Int->Option (Unit⊕Int)
  |0,_,_,_=>none
  |k+1,s_0,kE,fQ=>
    cond (decide (fQ<kE)) (if 0<=fQ then Option.bind (s_0[fQ.toNat]?) fun x3=>Option.bind (wJ k x3) fun p6=>cond p6 (some (.inr (fQ))) (bN k s_0 kE (IntKind.wrap .i64 (fQ+1)))else none) (some (.inl ()))
def jW:List Nat:=[4,5]++List.range' 8 11
theorem wM: ∀(k:Nat) (s_0:List Str) (kE:Int) (fQ:Int) (aA σ:Nat->PV) (H:AH) (f0:Fr jW aA σ) (sl:σ 0=(.aB (s_0.map aU) .unk)/\σ 1=(.fn (.func 145) [] [])/\σ 7=(.int .i64 kE)/\σ 8=(.int .i64 fQ)) (o:Unit⊕Int) (h:bN k s_0 kE fQ=some o) (Q:Post) (q0: ∀(p:Unit) (σ':Nat->PV),o= .inl p->Fr jW aA σ'->Q (.exit 0) σ' H) (q1: ∀(p:Int) (σ':Nat->PV),o= .inr (p)->Fr jW aA σ'->(σ' 4=(.int .i64 p))->Q .ret σ' H),W Tryz.prog (.loop Rz) Q σ H:=by
  intro k
  induction k with
  |zero=>intro s_0 kE fQ aA σ H f0 sl o h Q q0 q1;simp only [bN,reduceCtorEq]at h
  |succ k ih=>
    intro s_0 kE fQ aA σ H f0 sl o h Q q0 q1;obtain⟨s0,s1,s7,s8⟩:=sl;unfold bN at h;refine bf (fun K hK=>aD ?_);unfold Rz;rcases au h with⟨e1,h⟩|⟨e1,h⟩
    ·obtain⟨e2,h⟩:=aL h;obtain⟨x3,e4,h⟩:=aj h;obtain⟨p6,e5,h⟩:=aj h;refine ah ?_
     refine av (XB e5) ?_;rcases au h with⟨e7,h⟩|⟨e7,h⟩
     ·cases h;refine ah ?_
      exact q1 _ _ rfl aM ak
     ·refine ah ?_
      refine hK _ _ ?_;exact ih s_0 kE (IntKind.wrap .i64 (fQ+1)) _ _ _ aM ak _ h _ q0 q1
    ·cases h;refine ah ?_
     exact q0 _ _ rfl aM
def gN (k:Nat) (s_0:List Str):Option Int:=
  Option.bind (bN k s_0 (s_0.length:Int) 0) (fun o=>Sum.elim (fun jo=>some (-1)) (fun jq=>some jq) o)
theorem yS {k:Nat} {s_0:List Str} {c0:Ck} {r:Int} (h:gN k s_0=some r):aC Tryz.prog 186 [(.aB (s_0.map aU) c0),(.fn (.func 145) [] [])] (.int .i64 r):=by
  refine aC.lw (.aB (.same .nil)) (aC.aP (bn.mem (.cons (bC dw _) (.cons (.fn _ _ _ (bn.mem .nil) (bn.mem .nil)) .nil))) (aK aud (by simp) (aD ?_)) (.int _ _));unfold gN at h;unfold alF;refine ah ?_
  obtain⟨o8,h9,h⟩:=aj h;refine wM k s_0 (s_0.length:Int) 0 _ _ _ (Fr.refl _ _) ak _ h9 _ ?_ ?_
  ·rintro jo σ' eo WQ;subst eo;rw [bZ]at h;cases h;refine ah ?_
   exact(.pure _ (.int _ _))
  ·rintro jq σ' eo vv qB;subst eo;rw [dn]at h;cases h;refine ah ?_
   exact(.pure _ (.int _ _))
def fU (k:Nat) (s_0:List Str):Option Bool:=
  Option.bind (gN k s_0) fun p2=>some (decide (p2>=0))
theorem wN {k:Nat} {s_0:List Str} {c0:Ck} {r:Bool} (h:fU k s_0=some r):aC Tryz.prog 144 [(.aB (s_0.map aU) c0),(.fn (.func 145) [] [])] (.bool r):=by
  refine aC.lw (.aB (.same .nil)) (aC.aP (bn.mem (.cons (bC dw _) (.cons (.fn _ _ _ (bn.mem .nil) (bn.mem .nil)) .nil))) (aK atS (by simp) (aD ?_)) (.bool _));unfold fU at h;unfold aln;obtain⟨p2,e1,h⟩:=aj h;refine ah ?_
  refine av (yS e1) ?_;cases h;refine ah ?_
  exact(.pure _ (.bool _))
def yZ (k:Nat) (eF:Int) (fC:Int) (d9:Str) (eG:List Str) (eU:List Int) (uq:Bool):Option Bool:=
  cond uq (some (true)) (Option.bind (Ed d9) fun p8=>cond p8 (some (false)) (Option.bind (xI k d9) fun mQ=>some ((!mQ))))
def J7:List Nat:=List.range' 25 11
theorem TJ (k:Nat): ∀(fD:Nat) (eF:Int) (fC:Int) (d9:Str) (eG:List Str) (eU:List Int) (uq:Bool) (aA σ:Nat->PV) (H:AH) (f0:Fr J7 aA σ) (sl:σ 1=(.ref (fD) 0)/\σ 24=(.bool uq)/\H.obj fD=some [(.int .i64 eF),(.int .i64 fC),(.str d9),(.aB (eG.map aU) .unk),(.aB (eU.map bD) .unk)]) (iy:fD<H.next) (o:Bool) (h:yZ k eF fC d9 eG eU uq=some o) (Q:Post) (q0: ∀(p:Bool) (σ':Nat->PV),o=p->Fr J7 aA σ'->(σ' 35=(.bool p))->Q .normal σ' H),dD Tryz.prog Ws (Q .normal) σ H:=by
  intro fD eF fC d9 eG eU uq aA σ H f0 sl iy o h Q q0;obtain⟨s1,s24,J8⟩:=sl;have J9:=ne_next iy;have Ka:=aR iy;unfold yZ at h;refine dB ?_;unfold Ws;rcases au h with⟨e6,h⟩|⟨e6,h⟩
  ·cases h;refine ah ?_
   exact q0 _ _ rfl aM ak
  ·obtain⟨p8,e7,h⟩:=aj h;refine ah ?_
   refine av (Qt e7) ?_;rcases au h with⟨e9,h⟩|⟨e9,h⟩
   ·cases h;refine ah ?_
    exact q0 _ _ rfl aM ak
   ·obtain⟨mQ,e10,h⟩:=aj h;refine ah ?_
    refine av (NR e10) ?_;cases h;refine ah ?_
    exact q0 _ _ rfl aM ak
def y5 (k:Nat) (eF:Int) (fC:Int) (d9:Str) (eG:List Str) (eU:List Int) (jc:Bool) (abH:Bool):Option Bool:=
  cond abH (some (true)) (cond jc (some (false)) (Option.bind (xI k d9) fun p25=>some ((!p25))))
def Kc:List Nat:=List.range' 40 9
theorem TK (k:Nat): ∀(fD:Nat) (eF:Int) (fC:Int) (d9:Str) (eG:List Str) (eU:List Int) (jc:Bool) (abH:Bool) (aA σ:Nat->PV) (H:AH) (f0:Fr Kc aA σ) (sl:σ 1=(.ref (fD) 0)/\σ 5=(.bool jc)/\σ 39=(.bool abH)/\H.obj fD=some [(.int .i64 eF),(.int .i64 fC),(.str d9),(.aB (eG.map aU) .unk),(.aB (eU.map bD) .unk)]) (iy:fD<H.next) (o:Bool) (h:y5 k eF fC d9 eG eU jc abH=some o) (Q:Post) (q0: ∀(p:Bool) (σ':Nat->PV),o=p->Fr Kc aA σ'->(σ' 48=(.bool p))->Q .normal σ' H),dD Tryz.prog Wt (Q .normal) σ H:=by
  intro fD eF fC d9 eG eU jc abH aA σ H f0 sl iy o h Q q0;obtain⟨s1,s5,s39,J8⟩:=sl;have J9:=ne_next iy;have Ka:=aR iy;unfold y5 at h;refine dB ?_;unfold Wt;rcases au h with⟨e22,h⟩|⟨e22,h⟩
  ·cases h;refine ah ?_
   exact q0 _ _ rfl aM ak
  ·rcases au h with⟨e23,h⟩|⟨e23,h⟩
   ·cases h;refine ah ?_
    exact q0 _ _ rfl aM ak
   ·obtain⟨p25,e24,h⟩:=aj h;refine ah ?_
    refine av (NR e24) ?_;cases h;refine ah ?_
    exact q0 _ _ rfl aM ak
def y7 (eF:Int) (fC:Int) (d9:Str) (eG:List Str) (eU:List Int) (BD:Str) (BF:Int) (BG:Int) (BH:Int) (BI:Bool) (y8:Int) (y9:Int) (abI:Bool):Option Bool:=
  cond abI (Option.bind (gU (eU.length:Int) y8 y9) fun p38=>some ((!p38))) (some (false))
def Ke:List Nat:=List.range' 51 10
theorem TL: ∀(fD:Nat) (xM:Nat) (eF:Int) (fC:Int) (d9:Str) (eG:List Str) (eU:List Int) (BD:Str) (BF:Int) (BG:Int) (BH:Int) (BI:Bool) (y8:Int) (y9:Int) (abI:Bool) (aA σ:Nat->PV) (H:AH) (f0:Fr Ke aA σ) (sl:σ 1=(.ref (fD) 0)/\σ 4=(.ref (xM) 0)/\σ 50=(.bool abI)/\H.obj fD=some [(.int .i64 eF),(.int .i64 fC),(.str d9),(.aB (eG.map aU) .unk),(.aB (eU.map bD) .unk)]/\H.obj xM=some [(.str BD),(.int .i64 BF),(.int .i64 BG),(.int .i64 BH),(.bool BI),(.int .i64 y8),(.int .i64 y9)]) (iy:fD<H.next) (Dc:xM<H.next) (oP:fD≠xM) (o:Bool) (h:y7 eF fC d9 eG eU BD BF BG BH BI y8 y9 abI=some o) (Q:Post) (q0: ∀(p:Bool) (σ':Nat->PV),o=p->Fr Ke aA σ'->(σ' 60=(.bool p))->Q .normal σ' H),dD Tryz.prog Wu (Q .normal) σ H:=by
  intro fD xM eF fC d9 eG eU BD BF BG BH BI y8 y9 abI aA σ H f0 sl iy Dc oP o h Q q0;obtain⟨s1,s4,s50,J8,anv⟩:=sl;have J9:=ne_next iy;have Ka:=aR iy;have anw:=ne_next Dc;have anx:=aR Dc;have Zr:=eq_false oP;have Zt:=eq_false (Ne.symm oP);unfold y7 at h;refine dB ?_;unfold Wu;rcases au h with⟨e36,h⟩|⟨e36,h⟩
  ·obtain⟨p38,e37,h⟩:=aj h;refine ah ?_
   refine av (gV e37) ?_;cases h;refine ah ?_
   exact q0 _ _ rfl aM ak
  ·cases h;refine ah ?_
   exact q0 _ _ rfl aM ak
def za (k:Nat) (eF:Int) (fC:Int) (d9:Str) (eG:List Str) (eU:List Int) (abJ:Bool):Option Bool:=
  cond abJ (some (true)) (Option.bind (oK k d9) fun p51=>some ((!p51)))
def Kg:List Nat:=[65,66,67,68,69]
theorem TM (k:Nat): ∀(fD:Nat) (eF:Int) (fC:Int) (d9:Str) (eG:List Str) (eU:List Int) (abJ:Bool) (aA σ:Nat->PV) (H:AH) (f0:Fr Kg aA σ) (sl:σ 1=(.ref (fD) 0)/\σ 64=(.bool abJ)/\H.obj fD=some [(.int .i64 eF),(.int .i64 fC),(.str d9),(.aB (eG.map aU) .unk),(.aB (eU.map bD) .unk)]) (iy:fD<H.next) (o:Bool) (h:za k eF fC d9 eG eU abJ=some o) (Q:Post) (q0: ∀(p:Bool) (σ':Nat->PV),o=p->Fr Kg aA σ'->(σ' 69=(.bool p))->Q .normal σ' H),dD Tryz.prog Wv (Q .normal) σ H:=by
  intro fD eF fC d9 eG eU abJ aA σ H f0 sl iy o h Q q0;obtain⟨s1,s64,J8⟩:=sl;have J9:=ne_next iy;have Ka:=aR iy;unfold za at h;refine dB ?_;unfold Wv;rcases au h with⟨e49,h⟩|⟨e49,h⟩
  ·cases h;refine ah ?_
   exact q0 _ _ rfl aM ak
  ·obtain⟨p51,e50,h⟩:=aj h;refine ah ?_
   refine av (rA e50) ?_;cases h;refine ah ?_
   exact q0 _ _ rfl aM ak
def ze (k:Nat) (eF:Int) (fC:Int) (d9:Str) (eG:List Str) (eU:List Int) (BJ:Bool) (BD:Str) (BF:Int) (BG:Int) (BH:Int) (BI:Bool) (y8:Int) (y9:Int) (jc:Bool):Option ((Bool×Bool)):=
  cond (eF==2) (Option.bind (yZ k eF fC d9 eG eU BJ) (fun jq=>some ((jq,false)))) (cond (eF==3) (Option.bind (y5 k eF fC d9 eG eU jc BJ) (fun p28=>Option.bind (y7 eF fC d9 eG eU BD BF BG BH BI y8 y9 jc) (fun p41=>some ((p28,p41))))) (cond (eF==18) (Option.bind (za k eF fC d9 eG eU BJ) (fun p54=>some ((p54,false)))) (some ((BJ,false)))))
def Kh:List Nat:=[3,6]++List.range' 19 51
theorem TN (k:Nat): ∀(fD:Nat) (xM:Nat) (eF:Int) (fC:Int) (d9:Str) (eG:List Str) (eU:List Int) (BJ:Bool) (BD:Str) (BF:Int) (BG:Int) (BH:Int) (BI:Bool) (y8:Int) (y9:Int) (jc:Bool) (aA σ:Nat->PV) (H:AH) (f0:Fr Kh aA σ) (sl:σ 1=(.ref (fD) 0)/\σ 3=(.bool BJ)/\σ 4=(.ref (xM) 0)/\σ 5=(.bool jc)/\σ 6=(.bool false)/\H.obj fD=some [(.int .i64 eF),(.int .i64 fC),(.str d9),(.aB (eG.map aU) .unk),(.aB (eU.map bD) .unk)]/\H.obj xM=some [(.str BD),(.int .i64 BF),(.int .i64 BG),(.int .i64 BH),(.bool BI),(.int .i64 y8),(.int .i64 y9)]) (iy:fD<H.next) (Dc:xM<H.next) (oP:fD≠xM) (o:(Bool×Bool)) (h:ze k eF fC d9 eG eU BJ BD BF BG BH BI y8 y9 jc=some o) (Q:Post) (q0: ∀(p:Bool×Bool) (σ':Nat->PV),o=p->Fr Kh aA σ'->(σ' 3=(.bool p.1)/\σ' 6=(.bool p.2))->Q .normal σ' H),W Tryz.prog Ww Q σ H:=by
  intro fD xM eF fC d9 eG eU BJ BD BF BG BH BI y8 y9 jc aA σ H f0 sl iy Dc oP o h Q q0;obtain⟨s1,s3,s4,s5,s6,J8,anv⟩:=sl;have J9:=ne_next iy;have Ka:=aR iy;have anw:=ne_next Dc;have anx:=aR Dc;have Zr:=eq_false oP;have Zt:=eq_false (Ne.symm oP);unfold ze at h;refine aD ?_;unfold Ww;rcases au h with⟨e5,h⟩|⟨e5,h⟩
  ·refine ah ?_
   obtain⟨o12,Nn,h⟩:=aj h;refine TJ k (fD) eF fC d9 eG eU BJ _ _ _ (Fr.refl _ _) ak bJ _ Nn _ ?_
   ·rintro jq σ' eo vv qB;rw [eo]at h;have qM:σ' 1=(.ref (fD) 0):=(vv 1 (by decide)).trans ak;have s20:σ' 6=(.bool false):=(vv 6 (by decide)).trans ak;cases h;refine ah ?_
    exact q0 _ _ rfl (by repeat (first|exact f0|refine Fr.upd (by decide) ?_|refine Fr.via vv (by decide) ?_)) ak
  ·rcases au h with⟨e21,h⟩|⟨e21,h⟩
   ·refine ah ?_
    obtain⟨o26,h27,h⟩:=aj h;refine TK k (fD) eF fC d9 eG eU jc BJ _ _ _ (Fr.refl _ _) ak bJ _ h27 _ ?_
    ·rintro p28 σ' eo WM s32;rw [eo]at h;have s33:σ' 1=(.ref (fD) 0):=(WM 1 (by decide)).trans ak;have s34:σ' 4=(.ref (xM) 0):=(WM 4 (by decide)).trans ak;have s35:σ' 5=(.bool jc):=(WM 5 (by decide)).trans ak;refine ah ?_
     obtain⟨o39,EP,h⟩:=aj h;refine TL (fD) (xM) eF fC d9 eG eU BD BF BG BH BI y8 y9 jc _ _ _ (Fr.refl _ _) ak bJ bJ bJ _ EP _ ?_
     ·rintro p41 σ' eo EC s45;rw [eo]at h;have s46:σ' 1=(.ref (fD) 0):=(EC 1 (by decide)).trans ak;have s47:σ' 3=(.bool p28):=(EC 3 (by decide)).trans ak;cases h;refine ah ?_
      exact q0 _ _ rfl (by repeat (first|exact f0|refine Fr.upd (by decide) ?_|refine Fr.via WM (by decide) ?_|refine Fr.via EC (by decide) ?_)) ak
   ·rcases au h with⟨e48,h⟩|⟨e48,h⟩
    ·refine ah ?_
     obtain⟨o52,h53,h⟩:=aj h;refine TM k (fD) eF fC d9 eG eU BJ _ _ _ (Fr.refl _ _) ak bJ _ h53 _ ?_
     ·rintro p54 σ' eo afP s58;rw [eo]at h;have s59:σ' 1=(.ref (fD) 0):=(afP 1 (by decide)).trans ak;have s60:σ' 6=(.bool false):=(afP 6 (by decide)).trans ak;cases h;refine ah ?_
      exact q0 _ _ rfl (by repeat (first|exact f0|refine Fr.upd (by decide) ?_|refine Fr.via afP (by decide) ?_)) ak
    ·cases h;refine ah ?_
     exact q0 _ _ rfl aM ak
def jh:Nat->Int->Int->Str->(List Str)->(List Int)->Bool->(List Str)->Int->Int->Option Bool
  |0,_,_,_,_,_,_,_,_,_=>none
  |k+1,eF,fC,d9,eG,eU,Df,JB,JC,rY=>
    cond (decide (rY<JC)) (if 0<=rY then Option.bind (JB[rY.toNat]?) fun x72=>cond Df (jh k eF fC d9 eG eU true JB JC (IntKind.wrap .i64 (rY+1))) (if 0<=rY/\rY.toNat<=eG.length then Option.bind (dY k (eG.take rY.toNat) x72) fun p77=>jh k eF fC d9 eG eU p77 JB JC (IntKind.wrap .i64 (rY+1))else none)else none) (some (Df))
def Ki:List Nat:=[7,8,9]++List.range' 73 15
theorem TP: ∀(k:Nat) (fD:Nat) (eF:Int) (fC:Int) (d9:Str) (eG:List Str) (eU:List Int) (Df:Bool) (JB:List Str) (JC:Int) (rY:Int) (aA σ:Nat->PV) (H:AH) (f0:Fr Ki aA σ) (sl:σ 1=(.ref (fD) 0)/\σ 7=(.bool Df)/\σ 71=(.aB (JB.map aU) .unk)/\σ 72=(.int .i64 JC)/\σ 73=(.int .i64 rY)/\H.obj fD=some [(.int .i64 eF),(.int .i64 fC),(.str d9),(.aB (eG.map aU) .unk),(.aB (eU.map bD) .unk)]) (iy:fD<H.next) (o:Bool) (h:jh k eF fC d9 eG eU Df JB JC rY=some o) (Q:Post) (q0: ∀(p:Bool) (σ':Nat->PV),o=p->Fr Ki aA σ'->(σ' 7=(.bool p))->Q (.exit 1) σ' H),W Tryz.prog (.loop Wx) Q σ H:=by
  intro k
  induction k with
  |zero=>intro fD eF fC d9 eG eU Df JB JC rY aA σ H f0 sl iy o h Q q0;simp only [jh,reduceCtorEq]at h
  |succ k ih=>
    intro fD eF fC d9 eG eU Df JB JC rY aA σ H f0 sl iy o h Q q0;obtain⟨s1,s7,s71,s72,s73,J8⟩:=sl;have J9:=ne_next iy;have Ka:=aR iy;unfold jh at h;refine bf (fun K hK=>aD ?_);unfold Wx;rcases au h with⟨YB,h⟩|⟨YB,h⟩
    ·obtain⟨Yr,h⟩:=aL h;obtain⟨x72,Qn,h⟩:=aj h;rcases au h with⟨e74,h⟩|⟨e74,h⟩
     ·refine ah ?_
      refine hK _ _ ?_;exact ih fD eF fC d9 eG eU true JB JC (IntKind.wrap .i64 (rY+1)) _ _ _ aM ak bJ _ h _ q0
     ·obtain⟨Tc,h⟩:=aL h;obtain⟨p77,Yp,h⟩:=aj h;refine ah ?_
      refine av (kZ Yp) ?_;refine ah ?_
      refine hK _ _ ?_;exact ih fD eF fC d9 eG eU p77 JB JC (IntKind.wrap .i64 (rY+1)) _ _ _ aM ak bJ _ h _ q0
    ·cases h;refine ah ?_
     exact q0 _ _ rfl aM ak
def pJ (k:Nat) (bR:Nd):Option Int:=
  Option.bind (fU k bR.names) fun p2=>Option.bind (kS k bR.text) fun p4=>Option.bind (ze k bR.kind bR.n bR.text bR.names bR.args p2 p4.1.text p4.1.fix p4.1.low p4.1.high p4.1.left p4.1.least p4.1.most p4.2) (fun p63=>Option.bind (jh k bR.kind bR.n bR.text bR.names bR.args false bR.names (bR.names.length:Int) 0) (fun Bb=>Option.bind (mW p63.1 7) fun p88=>Option.bind (mW p63.2 17) fun p90=>Option.bind (mW Bb 12) fun p92=>Option.bind (iQ k [p88,p90,p92]) fun Yq=>some Yq))
theorem BK {k:Nat} {bR:Nd} {r:Int} (h:pJ k bR=some r):aC Tryz.prog 93 [(.agg (Nd.cells bR))] (.int .i64 r):=by
  refine aC.aP (bn.mem (.cons (.agg _ (Nd.pu _)) .nil)) (aK awZ (by simp) (aD ?_)) (.int _ _);unfold pJ at h;unfold ap9;obtain⟨p2,e1,h⟩:=aj h;refine ah ?_
  refine av (wN e1) ?_;obtain⟨p4,e3,h⟩:=aj h;refine ah ?_
  refine av (qm e3) ?_;refine ah ?_
  obtain⟨o61,h62,h⟩:=aj h;refine TN k (AH.empty.next) (AH.empty.next+1) bR.kind bR.n bR.text bR.names bR.args p2 p4.1.text p4.1.fix p4.1.low p4.1.high p4.1.left p4.1.least p4.1.most p4.2 _ _ _ (Fr.refl _ _) ak bJ bJ bJ _ h62 _ ?_
  ·rintro p63 σ' eo Js ⟨s67,s68⟩;rw [eo]at h;have s69:σ' 1=(.ref (AH.empty.next) 0):=(Js 1 (by decide)).trans ak;refine ah ?_
   obtain⟨o78,h79,h⟩:=aj h;refine TP k (AH.empty.next) bR.kind bR.n bR.text bR.names bR.args false bR.names (bR.names.length:Int) 0 _ _ _ (Fr.refl _ _) ak bJ _ h79 _ ?_
   ·rintro Bb σ' eo Li s84;rw [eo]at h;have s85:σ' 3=(.bool p63.1):=(Li 3 (by decide)).trans ak;have s86:σ' 6=(.bool p63.2):=(Li 6 (by decide)).trans ak;obtain⟨p88,e87,h⟩:=aj h;refine ah ?_
    refine av (mI e87) ?_;obtain⟨p90,Te,h⟩:=aj h;refine ah ?_
    refine av (mI Te) ?_;obtain⟨p92,Tg,h⟩:=aj h;refine ah ?_
    refine av (mI Tg) ?_;obtain⟨Yq,Tj,h⟩:=aj h;refine ah ?_
    refine av (mX Tj) ?_;cases h;refine ah ?_
    exact(.pure _ (.int _ _))
def BL (ow:Int) (kH:Int) (nH:Str) (su:List Str) (mP:List Int) (Fe:Int) (Fg:Int) (DN:Int) (DR:Int) (Fh:Bool) (BM:Bool) (abL:Bool):Option Bool:=
  cond abL (some (true)) (Option.bind (gU (mP.length:Int) DN DR) fun yG=>some ((!yG)))
def Mr:List Nat:=List.range' 37 12
theorem XC: ∀(jX:Nat) (BN:Nat) (ow:Int) (kH:Int) (nH:Str) (su:List Str) (mP:List Int) (Fe:Int) (Fg:Int) (DN:Int) (DR:Int) (Fh:Bool) (BM:Bool) (abL:Bool) (aA σ:Nat->PV) (H:AH) (f0:Fr Mr aA σ) (sl:σ 7=(.ref (jX) 0)/\σ 8=(.ref (BN) 0)/\σ 36=(.bool abL)/\H.obj jX=some [(.int .i64 ow),(.int .i64 kH),(.str nH),(.aB (su.map aU) .unk),(.aB (mP.map bD) .unk)]/\H.obj BN=some [(.int .i64 Fe),(.int .i64 Fg),(.int .i64 DN),(.int .i64 DR),(.bool Fh),(.bool BM)]) (sS:jX<H.next) (Dh:BN<H.next) (oQ:jX≠BN) (o:Bool) (h:BL ow kH nH su mP Fe Fg DN DR Fh BM abL=some o) (Q:Post) (q0: ∀(p:Bool) (σ':Nat->PV),o=p->Fr Mr aA σ'->(σ' 48=(.bool p))->Q .normal σ' H),dD Tryz.prog Vu (Q .normal) σ H:=by
  intro jX BN ow kH nH su mP Fe Fg DN DR Fh BM abL aA σ H f0 sl sS Dh oQ o h Q q0;obtain⟨s7,s8,s36,aem,anz⟩:=sl;have aen:=ne_next sS;have aeo:=aR sS;have anA:=ne_next Dh;have anB:=aR Dh;have Zu:=eq_false oQ;have Zv:=eq_false (Ne.symm oQ);unfold BL at h;refine dB ?_;unfold Vu;rcases au h with⟨e11,h⟩|⟨e11,h⟩
  ·cases h;refine ah ?_
   exact q0 _ _ rfl aM ak
  ·obtain⟨yG,e12,h⟩:=aj h;refine ah ?_
   refine av (gV e12) ?_;cases h;refine ah ?_
   exact q0 _ _ rfl aM ak
def nY:Nat->(List Int)->Int->Bool->(List Int)->Option ((Int×Bool)⊕(Int×Bool))
  |0,iI,jI,eO,oU=>some (.inr ((jI,eO)))
  |m+1,iI,jI,eO,oU=>
    Option.bind (oU[m]?) fun x27=>cond (x27 !=jI) (some (.inl (jI,false))) (cond (decide (jI<0)) (some (.inl (jI,false))) (if 0<=jI then Option.bind (iI[jI.toNat]?) fun x31=>nY m iI (IntKind.wrap .i64 (x31 -1)) eO oU else none))
theorem XD: ∀(m:Nat) (gF:Nat) (gJ:Nat) (bq:Nat) (rZ:Nat) (iI:List Int) (jI:Int) (eO:Bool) (oU:List Int) (aA σ:Nat->PV) (H0 H:AH) (f0:Fr [] aA σ) (hf0:HF [gJ,bq] H0 H) (sl:σ 5=(.ref (gF) 0)/\σ 9=(.ref (gJ) 0)/\σ 10=(.ref (bq) 0)/\σ 53=(.fn (.func 141) [] [(.ref (rZ) 0)])/\H.obj gF=some [(.aB (iI.map bD) .unk)]/\H.obj gJ=some [(.int .i64 jI)]/\H.obj bq=some [(.bool eO)]/\H.obj rZ=some [(.aB (oU.map bD) .unk)]) (kT:gF<H.next) (qb:gJ<H.next) (iW:bq<H.next) (xO:rZ<H.next) (eX:gF≠gJ) (dx:gF≠bq) (jJ:gF≠rZ) (dM:gJ≠bq) (lQ:gJ≠rZ) (iR:bq≠rZ) (o:(Int×Bool)⊕(Int×Bool)) (h:nY m iI jI eO oU=some o) (Q:Post) (q0: ∀(p:Int×Bool) (σ':Nat->PV) (H':AH),o= .inl p->Fr [] aA σ'->HF [gJ,bq] H0 H'->(H'.obj gJ=some [(.int .i64 p.1)]/\H'.obj bq=some [(.bool p.2)])->Q (.exit 0) σ' H') (q1: ∀(p:Int×Bool) (σ':Nat->PV) (H':AH),o= .inr (p)->Fr [] aA σ'->HF [gJ,bq] H0 H'->(H'.obj gJ=some [(.int .i64 p.1)]/\H'.obj bq=some [(.bool p.2)])->Q .normal σ' H'),Io (fun Q' σ' H'=>W Tryz.prog Q0 (KW (fun zy kg=>W Tryz.prog Q5 Q' zy kg)) σ' H') Q σ rZ [(.aB (oU.map bD) .unk)] 54 55 ((oU.map bD).map (EX false)) m H:=by
  intro m
  induction m with
  |zero=>
    intro gF gJ bq rZ iI jI eO oU aA σ H0 H f0 hf0 sl kT qb iW xO eX dx jJ dM lQ iR o h Q q0 q1;obtain⟨s5,s9,s10,s53,NT,YD,IJ,TQ⟩:=sl;have NU:=ne_next kT;have NV:=aR kT;have YE:=ne_next qb;have YF:=aR qb;have IK:=ne_next iW;have IL:=aR iW;have afV:=ne_next xO;have afW:=aR xO;have BO:=eq_false eX;have BP:=eq_false (Ne.symm eX);have uQ:=eq_false dx;have uR:=eq_false (Ne.symm dx);have Kj:=eq_false jJ;have Kk:=eq_false (Ne.symm jJ);have yh:=eq_false dM;have yj:=eq_false (Ne.symm dM);have NW:=eq_false lQ;have NY:=eq_false (Ne.symm lQ);have GR:=eq_false iR;have GU:=eq_false (Ne.symm iR);have hle0:=hf0.1;rw [nY]at h;cases h;exact q1 _ _ _ rfl f0 hf0 ak
  |succ m ih=>
    intro gF gJ bq rZ iI jI eO oU aA σ H0 H f0 hf0 sl kT qb iW xO eX dx jJ dM lQ iR o h Q q0 q1;obtain⟨s5,s9,s10,s53,NT,YD,IJ,TQ⟩:=sl;have NU:=ne_next kT;have NV:=aR kT;have YE:=ne_next qb;have YF:=aR qb;have IK:=ne_next iW;have IL:=aR iW;have afV:=ne_next xO;have afW:=aR xO;have BO:=eq_false eX;have BP:=eq_false (Ne.symm eX);have uQ:=eq_false dx;have uR:=eq_false (Ne.symm dx);have Kj:=eq_false jJ;have Kk:=eq_false (Ne.symm jJ);have yh:=eq_false dM;have yj:=eq_false (Ne.symm dM);have NW:=eq_false lQ;have NY:=eq_false (Ne.symm lQ);have GR:=eq_false iR;have GU:=eq_false (Ne.symm iR);have hle0:=hf0.1;rw [nY]at h;cases erf:oU[m]?
    case none=>rw [Au erf]at h;cases h
    case some x27=>
      rw [Av erf]at h;refine⟨TQ,EX false (bD x27),by simp only [List.getElem?_map,erf,Option.map_some],aD ?_⟩;unfold Q0;refine ah ?_
      refine aD ?_;unfold Q5;rcases au h with⟨e28,h⟩|⟨e28,h⟩
      ·cases h;refine ah ?_
       exact q0 _ _ _ rfl aM oo ak
      ·rcases au h with⟨e29,h⟩|⟨e29,h⟩
       ·cases h;refine ah ?_
        exact q0 _ _ _ rfl aM oo ak
       ·obtain⟨e30,h⟩:=aL h;obtain⟨x31,e32,h⟩:=aj h;refine ah ?_
        exact ih gF gJ bq rZ iI (IntKind.wrap .i64 (x31 -1)) eO oU _ _ _ _ f0 oo ak bJ bJ bJ bJ bJ bJ bJ bJ bJ bJ _ h _ q0 q1
def wO (iI:List Int) (ow:Int) (kH:Int) (nH:Str) (su:List Str) (mP:List Int) (jI:Int) (eO:Bool):Option ((Int×Bool)):=
  if mP.length<=1099511627776 then Option.bind (nY mP.length iI jI eO mP) (fun o=>Sum.elim (fun p35=>some ((p35.1,p35.2))) (fun p49=>some ((p49.1,p49.2))) o)else none
def Ms:List Nat:=[12]++List.range' 51 17
theorem XE: ∀(gF:Nat) (jX:Nat) (gJ:Nat) (bq:Nat) (iI:List Int) (ow:Int) (kH:Int) (nH:Str) (su:List Str) (mP:List Int) (jI:Int) (eO:Bool) (aA σ:Nat->PV) (H0 H:AH) (f0:Fr Ms aA σ) (hf0:HF [gJ,bq] H0 H) (sl:σ 5=(.ref (gF) 0)/\σ 7=(.ref (jX) 0)/\σ 9=(.ref (gJ) 0)/\σ 10=(.ref (bq) 0)/\H.obj gF=some [(.aB (iI.map bD) .unk)]/\H.obj jX=some [(.int .i64 ow),(.int .i64 kH),(.str nH),(.aB (su.map aU) .unk),(.aB (mP.map bD) .unk)]/\H.obj gJ=some [(.int .i64 jI)]/\H.obj bq=some [(.bool eO)]) (kT:gF<H.next) (sS:jX<H.next) (qb:gJ<H.next) (iW:bq<H.next) (wP:gF≠jX) (eX:gF≠gJ) (dx:gF≠bq) (BQ:jX≠gJ) (sU:jX≠bq) (dM:gJ≠bq) (o:(Int×Bool)) (h:wO iI ow kH nH su mP jI eO=some o) (Q:Post) (q0: ∀(p:Int×Bool) (σ':Nat->PV) (H':AH),o=p->Fr Ms aA σ'->HF [gJ,bq] H0 H'->(H'.obj gJ=some [(.int .i64 p.1)]/\H'.obj bq=some [(.bool p.2)])->Q .normal σ' H'),W Tryz.prog Vv Q σ H:=by
  intro gF jX gJ bq iI ow kH nH su mP jI eO aA σ H0 H f0 hf0 sl kT sS qb iW wP eX dx BQ sU dM o h Q q0;obtain⟨s5,s7,s9,s10,NT,aem,YD,IJ⟩:=sl;have NU:=ne_next kT;have NV:=aR kT;have aen:=ne_next sS;have aeo:=aR sS;have YE:=ne_next qb;have YF:=aR qb;have IK:=ne_next iW;have IL:=aR iW;have ahK:=eq_false wP;have ahL:=eq_false (Ne.symm wP);have BO:=eq_false eX;have BP:=eq_false (Ne.symm eX);have uQ:=eq_false dx;have uR:=eq_false (Ne.symm dx);have amb:=eq_false BQ;have amc:=eq_false (Ne.symm BQ);have aep:=eq_false sU;have aer:=eq_false (Ne.symm sU);have yh:=eq_false dM;have yj:=eq_false (Ne.symm dM);have hle0:=hf0.1;unfold wO at h;refine aD ?_;unfold Vv;refine ah ?_
  refine aK awX (by simp) (aD ?_);unfold ap7;obtain⟨e63,h⟩:=aL h;refine ah ?_
  obtain⟨o33,jK,h⟩:=aj h;refine atq (g:=141) (id:=H.next) (sz:=1) (agg:=false) (es:=mP.map bD) (c:= .unk) ak ahI ajI (by decide) ak (by rw [List.length_map];exact e63) (Nb (Aq.len (f:=bD)) _) ?_;rw [List.length_map];refine XD _ (gF) (gJ) (bq) (H.next) iI jI eO mP _ _ _ _ (Fr.refl _ _) (HF.refl _ _) ak bJ bJ bJ bJ bJ bJ bJ bJ bJ bJ _ jK _ ?_ ?_
  ·rintro p35 σ' H38 eo ajK RQ ⟨g39,g40⟩;subst eo;rw [bZ]at h;have s41:σ' 7=(.ref (jX) 0):=(ajK 7 (by decide)).trans ak;have s42:σ' 10=(.ref (bq) 0):=(ajK 10 (by decide)).trans ak;have le:=RQ.1;try simp only [AH.aF,AH.aG,AH.aH,AH.aI]at le
   have g43:H38.obj (jX)=some [(.int .i64 ow),(.int .i64 kH),(.str nH),(.aB (su.map aU) .unk),(.aB (mP.map bD) .unk)]:=(RQ.2 _ bJ (by first|exact List.not_mem_nil|(simp only [List.mem_cons,List.not_mem_nil,or_false,not_or];omega))).trans ak;have n44:=ne_next (show jX<H38.next by first|omega|(simp only [AH.aF,AH.aG,AH.aH,AH.aI];omega));have m45:=aR (show jX<H38.next by first|omega|(simp only [AH.aF,AH.aG,AH.aH,AH.aI];omega));have n47:=ne_next (show bq<H38.next by first|omega|(simp only [AH.aF,AH.aG,AH.aH,AH.aI];omega));have m48:=aR (show bq<H38.next by first|omega|(simp only [AH.aF,AH.aG,AH.aH,AH.aI];omega));cases h;refine ah ?_
   exact q0 _ _ _ rfl (by repeat (first|exact f0|refine Fr.upd (by decide) ?_|refine Fr.via ajK (by decide) ?_)) (by repeat (first|exact hf0|refine HF.new ?_|refine HF.oG ?_|refine HF.used ?_|refine HF.put (by first|(right;omega)|(left;simp only [List.mem_cons,true_or,or_true])) ?_|refine HF.via RQ (by first|exact fun i hi=>absurd hi List.not_mem_nil|(intro i hi;simp only [List.mem_cons,List.not_mem_nil,or_false]at hi⊢;first|exact .inl hi|omega)) ?_)) ak
  ·rintro p49 σ' H52 eo Nt abM ⟨g53,g54⟩;subst eo;rw [dn]at h;have s55:σ' 7=(.ref (jX) 0):=(Nt 7 (by decide)).trans ak;have s56:σ' 10=(.ref (bq) 0):=(Nt 10 (by decide)).trans ak;have le:=abM.1;try simp only [AH.aF,AH.aG,AH.aH,AH.aI]at le
   have g57:H52.obj (jX)=some [(.int .i64 ow),(.int .i64 kH),(.str nH),(.aB (su.map aU) .unk),(.aB (mP.map bD) .unk)]:=(abM.2 _ bJ (by first|exact List.not_mem_nil|(simp only [List.mem_cons,List.not_mem_nil,or_false,not_or];omega))).trans ak;have n58:=ne_next (show jX<H52.next by first|omega|(simp only [AH.aF,AH.aG,AH.aH,AH.aI];omega));have m59:=aR (show jX<H52.next by first|omega|(simp only [AH.aF,AH.aG,AH.aH,AH.aI];omega));have n61:=ne_next (show bq<H52.next by first|omega|(simp only [AH.aF,AH.aG,AH.aH,AH.aI];omega));have m62:=aR (show bq<H52.next by first|omega|(simp only [AH.aF,AH.aG,AH.aH,AH.aI];omega));cases h;refine ah ?_
   exact q0 _ _ _ rfl (by repeat (first|exact f0|refine Fr.upd (by decide) ?_|refine Fr.via Nt (by decide) ?_)) (by repeat (first|exact hf0|refine HF.new ?_|refine HF.oG ?_|refine HF.used ?_|refine HF.put (by first|(right;omega)|(left;simp only [List.mem_cons,true_or,or_true])) ?_|refine HF.via abM (by first|exact fun i hi=>absurd hi List.not_mem_nil|(intro i hi;simp only [List.mem_cons,List.not_mem_nil,or_false]at hi⊢;first|exact .inl hi|omega)) ?_)) ak
def BR (ow:Int) (kH:Int) (nH:Str) (su:List Str) (mP:List Int) (Fe:Int) (Fg:Int) (DN:Int) (DR:Int) (Fh:Bool) (BM:Bool) (uS:Bool) (rY:Bool):Option Bool:=
  cond rY (cond BM (cond (ow !=1) (cond uS (Option.bind (gU kH 0 1) fun JW=>some (JW)) (some (true))) (Option.bind (wB nH) fun lX=>cond lX (cond uS (Option.bind (gU kH 0 1) fun Tt=>some (Tt)) (some (true))) (some (false)))) (cond (kH==0) (cond (ow !=1) (cond uS (Option.bind (gU kH 0 1) fun K7=>some (K7)) (some (true))) (Option.bind (wB nH) fun RS=>cond RS (cond uS (Option.bind (gU kH 0 1) fun GV=>some (GV)) (some (true))) (some (false)))) (some (false)))) (cond (nH==[]) (cond BM (cond (ow !=1) (cond uS (Option.bind (gU kH 0 1) fun Lj=>some (Lj)) (some (true))) (Option.bind (wB nH) fun aaX=>cond aaX (cond uS (Option.bind (gU kH 0 1) fun Jp=>some (Jp)) (some (true))) (some (false)))) (cond (kH==0) (cond (ow !=1) (cond uS (Option.bind (gU kH 0 1) fun arK=>some (arK)) (some (true))) (Option.bind (wB nH) fun arL=>cond arL (cond uS (Option.bind (gU kH 0 1) fun arM=>some (arM)) (some (true))) (some (false)))) (some (false)))) (some (false)))
def Mt:List Nat:=List.range' 74 32
theorem XF: ∀(jX:Nat) (BN:Nat) (ow:Int) (kH:Int) (nH:Str) (su:List Str) (mP:List Int) (Fe:Int) (Fg:Int) (DN:Int) (DR:Int) (Fh:Bool) (BM:Bool) (uS:Bool) (rY:Bool) (aA σ:Nat->PV) (H:AH) (f0:Fr Mt aA σ) (sl:σ 7=(.ref (jX) 0)/\σ 8=(.ref (BN) 0)/\σ 13=(.bool uS)/\σ 73=(.bool rY)/\H.obj jX=some [(.int .i64 ow),(.int .i64 kH),(.str nH),(.aB (su.map aU) .unk),(.aB (mP.map bD) .unk)]/\H.obj BN=some [(.int .i64 Fe),(.int .i64 Fg),(.int .i64 DN),(.int .i64 DR),(.bool Fh),(.bool BM)]) (sS:jX<H.next) (Dh:BN<H.next) (oQ:jX≠BN) (o:Bool) (h:BR ow kH nH su mP Fe Fg DN DR Fh BM uS rY=some o) (Q:Post) (q0: ∀(p:Bool) (σ':Nat->PV),o=p->Fr Mt aA σ'->(σ' 105=(.bool p))->Q .normal σ' H),dD Tryz.prog Vw (Q .normal) σ H:=by
  intro jX BN ow kH nH su mP Fe Fg DN DR Fh BM uS rY aA σ H f0 sl sS Dh oQ o h Q q0;obtain⟨s7,s8,s13,s73,aem,anz⟩:=sl;have aen:=ne_next sS;have aeo:=aR sS;have anA:=ne_next Dh;have anB:=aR Dh;have Zu:=eq_false oQ;have Zv:=eq_false (Ne.symm oQ);unfold BR at h;refine dB ?_;unfold Vw;rcases au h with⟨e84,h⟩|⟨e84,h⟩
  ·rcases au h with⟨e85,h⟩|⟨e85,h⟩
   ·rcases au h with⟨Td,h⟩|⟨Td,h⟩
    ·rcases au h with⟨e87,h⟩|⟨e87,h⟩
     ·obtain⟨JW,Nk,h⟩:=aj h;refine ah ?_
      refine av (gV Nk) ?_;cases h;refine ah ?_
      exact q0 _ _ rfl aM ak
     ·cases h;refine ah ?_
      exact q0 _ _ rfl aM ak
    ·obtain⟨lX,Tf,h⟩:=aj h;refine ah ?_
     refine av (Fb Tf) ?_;rcases au h with⟨e92,h⟩|⟨e92,h⟩
     ·rcases au h with⟨Tj,h⟩|⟨Tj,h⟩
      ·obtain⟨Tt,e94,h⟩:=aj h;refine ah ?_
       refine av (gV e94) ?_;cases h;refine ah ?_
       exact q0 _ _ rfl aM ak
      ·cases h;refine ah ?_
       exact q0 _ _ rfl aM ak
     ·cases h;refine ah ?_
      exact q0 _ _ rfl aM ak
   ·rcases au h with⟨e96,h⟩|⟨e96,h⟩
    ·rcases au h with⟨e97,h⟩|⟨e97,h⟩
     ·rcases au h with⟨e98,h⟩|⟨e98,h⟩
      ·obtain⟨K7,e99,h⟩:=aj h;refine ah ?_
       refine av (gV e99) ?_;cases h;refine ah ?_
       exact q0 _ _ rfl aM ak
      ·cases h;refine ah ?_
       exact q0 _ _ rfl aM ak
     ·obtain⟨RS,RG,h⟩:=aj h;refine ah ?_
      refine av (Fb RG) ?_;rcases au h with⟨K8,h⟩|⟨K8,h⟩
      ·rcases au h with⟨ajC,h⟩|⟨ajC,h⟩
       ·obtain⟨GV,Nq,h⟩:=aj h;refine ah ?_
        refine av (gV Nq) ?_;cases h;refine ah ?_
        exact q0 _ _ rfl aM ak
       ·cases h;refine ah ?_
        exact q0 _ _ rfl aM ak
      ·cases h;refine ah ?_
       exact q0 _ _ rfl aM ak
    ·cases h;refine ah ?_
     exact q0 _ _ rfl aM ak
  ·rcases au h with⟨GH,h⟩|⟨GH,h⟩
   ·rcases au h with⟨e108,h⟩|⟨e108,h⟩
    ·rcases au h with⟨e109,h⟩|⟨e109,h⟩
     ·rcases au h with⟨Xa,h⟩|⟨Xa,h⟩
      ·obtain⟨Lj,aa0,h⟩:=aj h;refine ah ?_
       refine av (gV aa0) ?_;cases h;refine ah ?_
       exact q0 _ _ rfl aM ak
      ·cases h;refine ah ?_
       exact q0 _ _ rfl aM ak
     ·obtain⟨aaX,aa1,h⟩:=aj h;refine ah ?_
      refine av (Fb aa1) ?_;rcases au h with⟨e115,h⟩|⟨e115,h⟩
      ·rcases au h with⟨e116,h⟩|⟨e116,h⟩
       ·obtain⟨Jp,e117,h⟩:=aj h;refine ah ?_
        refine av (gV e117) ?_;cases h;refine ah ?_
        exact q0 _ _ rfl aM ak
       ·cases h;refine ah ?_
        exact q0 _ _ rfl aM ak
      ·cases h;refine ah ?_
       exact q0 _ _ rfl aM ak
    ·rcases au h with⟨e119,h⟩|⟨e119,h⟩
     ·rcases au h with⟨e120,h⟩|⟨e120,h⟩
      ·rcases au h with⟨ajL,h⟩|⟨ajL,h⟩
       ·obtain⟨arK,aa2,h⟩:=aj h;refine ah ?_
        refine av (gV aa2) ?_;cases h;refine ah ?_
        exact q0 _ _ rfl aM ak
       ·cases h;refine ah ?_
        exact q0 _ _ rfl aM ak
      ·obtain⟨arL,arO,h⟩:=aj h;refine ah ?_
       refine av (Fb arO) ?_;rcases au h with⟨e126,h⟩|⟨e126,h⟩
       ·rcases au h with⟨e127,h⟩|⟨e127,h⟩
        ·obtain⟨arM,e128,h⟩:=aj h;refine ah ?_
         refine av (gV e128) ?_;cases h;refine ah ?_
         exact q0 _ _ rfl aM ak
        ·cases h;refine ah ?_
         exact q0 _ _ rfl aM ak
       ·cases h;refine ah ?_
        exact q0 _ _ rfl aM ak
     ·cases h;refine ah ?_
      exact q0 _ _ rfl aM ak
   ·cases h;refine ah ?_
    exact q0 _ _ rfl aM ak
def Ee (k:Nat) (aJ:List Nd) (dP:Int) (rW:List Int):Option Int:=
  if 0<=dP then Option.bind (aJ[dP.toNat]?) fun x2=>Option.bind (gU x2.kind 0 28) fun p5=>cond p5 (Option.bind (Ab k x2) fun p8=>Option.bind (gU (x2.names.length:Int) p8.names.1 p8.names.2) fun jo=>Option.bind (BL x2.kind x2.n x2.text x2.names x2.args p8.names.1 p8.names.2 p8.operands.1 p8.operands.2 p8.text p8.number (!jo)) (fun p16=>cond p16 (some 6) (Option.bind (wO rW x2.kind x2.n x2.text x2.names x2.args (IntKind.wrap .i64 (dP -1)) true) (fun p66=>Option.bind (BR x2.kind x2.n x2.text x2.names x2.args p8.names.1 p8.names.2 p8.operands.1 p8.operands.2 p8.text p8.number (x2.kind==23) p8.text) (fun XG=>cond p66.2 (Option.bind (mW (!XG) 5) fun ajM=>cond (x2.kind==23) (Option.bind (mW false 3) fun arP=>Option.bind (pJ k x2) fun arQ=>Option.bind (iQ k [ajM,arP,arQ]) fun arR=>some arR) (Option.bind (gU x2.n 0 10000) fun arS=>Option.bind (mW (!arS) 3) fun aa4=>Option.bind (pJ k x2) fun arU=>Option.bind (iQ k [ajM,aa4,arU]) fun arV=>some arV)) (Option.bind (mW true 5) fun ajN=>cond (x2.kind==23) (Option.bind (mW false 3) fun arW=>Option.bind (pJ k x2) fun arX=>Option.bind (iQ k [ajN,arW,arX]) fun arY=>some arY) (Option.bind (gU x2.n 0 10000) fun aa5=>Option.bind (mW (!aa5) 3) fun arZ=>Option.bind (pJ k x2) fun afB=>Option.bind (iQ k [ajN,arZ,afB]) fun ar0=>some ar0))))))) (some 4)else none
theorem adB {k:Nat} {aJ:List Nd} {dP:Int} {rW:List Int} {c0 c2:Ck} {r:Int} (h:Ee k aJ dP rW=some r):aC Tryz.prog 48 [(.aB (aJ.map Nd.cells) c0),(.int .i64 dP),(.aB (rW.map bD) c2)] (.int .i64 r):=by
  refine aC.lw (.aB (.same (.aB .nil))) (aC.aP (bn.mem (.cons (bC Nd.pu _) (.cons (.int _ _) (.cons (bC iO _) .nil)))) (aK awx (by simp) (aD ?_)) (.int _ _));unfold Ee at h;unfold apD;obtain⟨e1,h⟩:=aL h;obtain⟨x2,e3,h⟩:=aj h;obtain⟨p5,e4,h⟩:=aj h;refine ah ?_
  refine av (gV e4) ?_;rcases au h with⟨e6,h⟩|⟨e6,h⟩
  ·obtain⟨p8,e7,h⟩:=aj h;refine ah ?_
   refine av (adA e7) ?_;obtain⟨jo,e9,h⟩:=aj h;refine ah ?_
   refine av (gV e9) ?_;refine ah ?_
   obtain⟨o14,h15,h⟩:=aj h;refine XC (AH.empty.next+1) (AH.empty.next+2) x2.kind x2.n x2.text x2.names x2.args p8.names.1 p8.names.2 p8.operands.1 p8.operands.2 p8.text p8.number (!jo) _ _ _ (Fr.refl _ _) ak bJ bJ bJ _ h15 _ ?_
   ·rintro p16 σ' eo aaS s20;rw [eo]at h;have s21:σ' 1=(.int .i64 dP):=(aaS 1 (by decide)).trans ak;have s22:σ' 5=(.ref (AH.empty.next) 0):=(aaS 5 (by decide)).trans ak;have s23:σ' 7=(.ref (AH.empty.next+1) 0):=(aaS 7 (by decide)).trans ak;have s24:σ' 8=(.ref (AH.empty.next+2) 0):=(aaS 8 (by decide)).trans ak;rcases au h with⟨e25,h⟩|⟨e25,h⟩
    ·cases h;refine ah ?_
     exact(.pure _ (.int _ _))
    ·refine ah ?_
     obtain⟨o64,h65,h⟩:=aj h;refine XE (AH.empty.next) (AH.empty.next+1) (AH.empty.next+3) (AH.empty.next+4) rW x2.kind x2.n x2.text x2.names x2.args (IntKind.wrap .i64 (dP -1)) true _ _ _ _ (Fr.refl _ _) (HF.refl _ _) ak bJ bJ bJ bJ bJ bJ bJ bJ bJ bJ _ h65 _ ?_
     ·rintro p66 σ' YG eo NS ajO ⟨g70,g71⟩;rw [eo]at h;have s72:σ' 7=(.ref (AH.empty.next+1) 0):=(NS 7 (by decide)).trans ak;have s73:σ' 8=(.ref (AH.empty.next+2) 0):=(NS 8 (by decide)).trans ak;have s74:σ' 10=(.ref (AH.empty.next+4) 0):=(NS 10 (by decide)).trans ak;have le:=ajO.1;try simp only [AH.aF,AH.aG,AH.aH,AH.aI]at le
      have g75:YG.obj (AH.empty.next+1)=some [(.int .i64 x2.kind),(.int .i64 x2.n),(.str x2.text),(.aB (x2.names.map aU) .unk),(.aB (x2.args.map bD) .unk)]:=(ajO.2 _ bJ (by first|exact List.not_mem_nil|(simp only [List.mem_cons,List.not_mem_nil,or_false,not_or];omega))).trans ak;have n76:=ne_next (show AH.empty.next+1<YG.next by first|omega|(simp only [AH.aF,AH.aG,AH.aH,AH.aI];omega));have m77:=aR (show AH.empty.next+1<YG.next by first|omega|(simp only [AH.aF,AH.aG,AH.aH,AH.aI];omega));have g78:YG.obj (AH.empty.next+2)=some [(.int .i64 p8.names.1),(.int .i64 p8.names.2),(.int .i64 p8.operands.1),(.int .i64 p8.operands.2),(.bool p8.text),(.bool p8.number)]:=(ajO.2 _ bJ (by first|exact List.not_mem_nil|(simp only [List.mem_cons,List.not_mem_nil,or_false,not_or];omega))).trans ak;have n79:=ne_next (show AH.empty.next+2<YG.next by first|omega|(simp only [AH.aF,AH.aG,AH.aH,AH.aI];omega));have m80:=aR (show AH.empty.next+2<YG.next by first|omega|(simp only [AH.aF,AH.aG,AH.aH,AH.aI];omega));have n82:=ne_next (show AH.empty.next+4<YG.next by first|omega|(simp only [AH.aF,AH.aG,AH.aH,AH.aI];omega));have m83:=aR (show AH.empty.next+4<YG.next by first|omega|(simp only [AH.aF,AH.aG,AH.aH,AH.aI];omega));refine ah ?_
      obtain⟨aB1,axP,h⟩:=aj h;refine XF (AH.empty.next+1) (AH.empty.next+2) x2.kind x2.n x2.text x2.names x2.args p8.names.1 p8.names.2 p8.operands.1 p8.operands.2 p8.text p8.number (x2.kind==23) p8.text _ _ _ (Fr.refl _ _) ak bJ bJ bJ _ axP _ ?_
      ·rintro XG σ' eo afX aB2;rw [eo]at h;have aB3:σ' 7=(.ref (AH.empty.next+1) 0):=(afX 7 (by decide)).trans ak;have ar1:σ' 10=(.ref (AH.empty.next+4) 0):=(afX 10 (by decide)).trans ak;have ar2:σ' 13=(.bool (x2.kind==23)):=(afX 13 (by decide)).trans ak;refine ah ?_
       refine dI ?_;rcases au h with⟨aa3,h⟩|⟨aa3,h⟩
       ·obtain⟨ajM,axQ,h⟩:=aj h;refine ah ?_
        refine PC.mk (mI axQ) ?_;rcases au h with⟨e143,h⟩|⟨e143,h⟩
        ·obtain⟨arP,ajP,h⟩:=aj h;refine ah ?_
         refine PC.mk (mI ajP) ?_;obtain⟨arQ,afY,h⟩:=aj h;refine ah ?_
         refine av (BK afY) ?_;obtain⟨arR,ar3,h⟩:=aj h;refine ah ?_
         refine av (mX ar3) ?_;cases h;refine ah ?_
         exact(.pure _ (.int _ _))
        ·obtain⟨arS,ajq,h⟩:=aj h;refine ah ?_
         refine PC.mk (gV ajq) ?_;obtain⟨aa4,e152,h⟩:=aj h;refine ah ?_
         refine PC.mk (mI e152) ?_;obtain⟨arU,e154,h⟩:=aj h;refine ah ?_
         refine av (BK e154) ?_;obtain⟨arV,axR,h⟩:=aj h;refine ah ?_
         refine av (mX axR) ?_;cases h;refine ah ?_
         exact(.pure _ (.int _ _))
       ·obtain⟨ajN,ajQ,h⟩:=aj h;refine ah ?_
        refine PC.mk (mI ajQ) ?_;rcases au h with⟨axS,h⟩|⟨axS,h⟩
        ·obtain⟨arW,ar4,h⟩:=aj h;refine ah ?_
         refine PC.mk (mI ar4) ?_;obtain⟨arX,ajp,h⟩:=aj h;refine ah ?_
         refine av (BK ajp) ?_;obtain⟨arY,e165,h⟩:=aj h;refine ah ?_
         refine av (mX e165) ?_;cases h;refine ah ?_
         exact(.pure _ (.int _ _))
        ·obtain⟨aa5,e167,h⟩:=aj h;refine ah ?_
         refine PC.mk (gV e167) ?_;obtain⟨arZ,e169,h⟩:=aj h;refine ah ?_
         refine PC.mk (mI e169) ?_;obtain⟨afB,ajR,h⟩:=aj h;refine ah ?_
         refine av (BK ajR) ?_;obtain⟨ar0,axT,h⟩:=aj h;refine ah ?_
         refine av (mX axT) ?_;cases h;refine ah ?_
         exact(.pure _ (.int _ _))
  ·cases h;refine ah ?_
   exact(.pure _ (.int _ _))
def jY:Nat->(List Nd)->(List Int)->Int->Int->Option (List Int⊕(Int×Int))
  |0,_,_,_,_=>none
  |k+1,aJ,mY,kr,gD=>
    cond (decide (gD<kr)) (Option.bind (Ee k aJ gD mY) fun jo=>cond (jo !=0) (some (.inr ((gD,jo)))) (if(mY.length+1)*8<=1099511627776 then Option.bind (Pb aJ gD (mY++[0])) fun tC=>if 0<=gD then Option.bind ((mY++[0])[gD.toNat]?) fun x23=>jY k aJ ((mY++[0]).set gD.toNat tC) kr (IntKind.wrap .i64 (gD+1))else none else none)) (some (.inl mY))
def BS:List Nat:=[2,3,5,6,7]++List.range' 27 22
theorem RU: ∀(k:Nat) (xP:PV) (wQ:List Nat) (M:List Nat) (aJ:List Nd) (mY:List Int) (kr:Int) (gD:Int) (aA σ:Nat->PV) (H0 H:AH) (f0:Fr BS aA σ) (hf0:HF M H0 H) (sl:σ 0=(.aB (aJ.map Nd.cells) .unk)/\σ 5=xP/\σ 26=(.int .i64 kr)/\σ 27=(.int .i64 gD)) (rG:aO H bD 1 mY xP wQ) (uZ:Nw H0 M wQ) (o:List Int⊕(Int×Int)) (h:jY k aJ mY kr gD=some o) (Q:Post) (q0: ∀(p:List Int) (v0:PV) (uo:List Nat) (σ':Nat->PV) (H':AH),o= .inl p->Fr BS aA σ'->HF M H0 H'->(σ' 5=v0)->aO H' bD 1 p v0 uo->Nw H0 M uo->Q (.exit 0) σ' H') (q1: ∀(p:Int×Int) (σ':Nat->PV) (H':AH),o= .inr (p)->Fr BS aA σ'->HF M H0 H'->(σ' 2=(.int .i64 p.1)/\σ' 3=(.int .i64 p.2))->Q .ret σ' H'),W Tryz.prog (.loop Vb) Q σ H:=by
  intro k
  induction k with
  |zero=>intro xP wQ M aJ mY kr gD aA σ H0 H f0 hf0 sl rG uZ o h Q q0 q1;simp only [jY,reduceCtorEq]at h
  |succ k ih=>
    intro xP wQ M aJ mY kr gD aA σ H0 H f0 hf0 sl rG uZ o h Q q0 q1;obtain⟨s0,s5,s26,s27⟩:=sl;have hle0:=hf0.1;unfold jY at h;refine bf (fun K hK=>aD ?_);unfold Vb;rcases au h with⟨e8,h⟩|⟨e8,h⟩
    ·obtain⟨jo,e9,h⟩:=aj h;refine dz ?_
     refine Nc (adB e9) (.cons (jB Nd.pu _ _) (aN (.cons (aO.fz iO (by repeat (first|exact rG|apply aO.new|refine aO.put ?_ (fun hm=>by have:=aO.lt rG _ hm;omega)))) .nil))) (.cons (bC Nd.pu _) (.cons (.int _ _) (.cons (bC iO _) .nil))) (.int _ _) ?_;rcases au h with⟨e11,h⟩|⟨e11,h⟩
     ·cases h;refine dz ?_
      exact q1 _ _ _ rfl aM oo eH
     ·obtain⟨e12,h⟩:=aL h;refine dz ?_
      refine ND (f:=bD) (v:=xP) JN mY ([0]:List Int) .exact eH (by repeat (first|exact rG|apply aO.new|refine aO.put ?_ (fun hm=>by have:=aO.lt rG _ hm;omega))) eH (by decide) (by simp only [List.length_cons,List.length_nil];exact e12) (fun v13 auv H15 r16 ar5 ar6 axU=> ?_);have le:=ar6.1;try simp only [AH.aF,AH.aG,AH.aH,AH.aI]at le
      obtain⟨tC,e20,h⟩:=aj h;refine dz ?_
      refine Nc (ahr e20) (.cons (jB Nd.pu _ _) (aN (.cons (aO.fz iO (by repeat (first|exact r16|apply aO.new|refine aO.put ?_ (fun hm=>by have:=aO.lt r16 _ hm;omega)))) .nil))) (.cons (bC Nd.pu _) (.cons (.int _ _) (.cons (bC iO _) .nil))) (.int _ _) ?_;obtain⟨e22,h⟩:=aL h;obtain⟨x23,e24,h⟩:=aj h;obtain⟨w25,w26,ar7,hil,w27,hC,hL,hD,hI⟩:=aO.content r16 e24;have w28:=ne_next hil;have w29:=aR hil;have w30:qL 1 v13 (.int .i64 gD)=some (.ref w25 (gD.toNat)):=by simpa using hI .i64 gD (by first|omega|decide) (by first|rfl|omega)
      have aAV:w26[gD.toNat]? =some (.int .i64 x23):=by simpa using hC 0 _ rfl
      clear hC hL hD hI;refine dz ?_
      refine zZ (f:=bD) (id:=w25) (o:=gD.toNat) (i:=gD.toNat) (j:=0) (a:=x23) (y:=tC) (vs:=[(.int .i64 tC)]) eH ar7 (by omega) (by repeat (first|exact r16|apply aO.new|refine aO.put ?_ (fun hm=>by have:=aO.lt r16 _ hm;omega))) e24 eH rfl rfl (by first|decide|(simp only [List.length_cons,List.length_nil];omega)) rfl (fun H33 r34 ar8 apy=> ?_);have le:=ar8.1;try simp only [AH.aF,AH.aG,AH.aH,AH.aI]at le
      refine dz ?_
      refine hK _ _ ?_;exact ih v13 auv M aJ ((mY++[0]).set gD.toNat tC) kr (IntKind.wrap .i64 (gD+1)) _ _ _ _ aM (by repeat (first|exact hf0|refine HF.new ?_|refine HF.oG ?_|refine HF.used ?_|refine HF.put (by first|(right;omega)|(left;simp only [List.mem_cons,true_or,or_true])) ?_|refine HF.via ar6 uZ ?_|refine HF.via ar8 (Nw.trans uZ bJ ar5) ?_)) eH (by repeat (first|exact r34|apply aO.new|refine aO.put ?_ (fun hm=>by have:=aO.lt r34 _ hm;omega))) (Nw.trans uZ bJ ar5) _ h _ q0 q1
    ·cases h;refine dz ?_
     exact q0 _ xP wQ _ _ rfl aM oo eH (by repeat (first|exact rG|apply aO.new|refine aO.put ?_ (fun hm=>by have:=aO.lt rG _ hm;omega))) uZ
def jZ:Nat->(List Nd)->(List Int)->(List Int)->Int->Int->Option (Unit⊕(Int×Int))
  |0,_,_,_,_,_=>none
  |k+1,aJ,NZ,wR,N7,JD=>
    cond (decide (JD<N7)) (Option.bind (GQ k aJ JD NZ wR) fun p54=>cond p54 (some (.inr ((JD,30)))) (jZ k aJ NZ wR N7 (IntKind.wrap .i64 (JD+1)))) (some (.inl ()))
def BU:List Nat:=[2,3,11]++List.range' 59 10
theorem RX: ∀(k:Nat) (aJ:List Nd) (NZ:List Int) (wR:List Int) (N7:Int) (JD:Int) (aA σ:Nat->PV) (H:AH) (f0:Fr BU aA σ) (sl:σ 0=(.aB (aJ.map Nd.cells) .unk)/\σ 9=(.aB (NZ.map bD) .unk)/\σ 10=(.aB (wR.map bD) .unk)/\σ 58=(.int .i64 N7)/\σ 59=(.int .i64 JD)) (o:Unit⊕(Int×Int)) (h:jZ k aJ NZ wR N7 JD=some o) (Q:Post) (q0: ∀(p:Unit) (σ':Nat->PV),o= .inl p->Fr BU aA σ'->Q (.exit 2) σ' H) (q1: ∀(p:Int×Int) (σ':Nat->PV),o= .inr (p)->Fr BU aA σ'->(σ' 2=(.int .i64 p.1)/\σ' 3=(.int .i64 p.2))->Q .ret σ' H),W Tryz.prog (.loop Vd) Q σ H:=by
  intro k
  induction k with
  |zero=>intro aJ NZ wR N7 JD aA σ H f0 sl o h Q q0 q1;simp only [jZ,reduceCtorEq]at h
  |succ k ih=>
    intro aJ NZ wR N7 JD aA σ H f0 sl o h Q q0 q1;obtain⟨s0,s9,s10,s58,s59⟩:=sl;unfold jZ at h;refine bf (fun K hK=>aD ?_);unfold Vd;rcases au h with⟨e52,h⟩|⟨e52,h⟩
    ·obtain⟨p54,e53,h⟩:=aj h;refine dz ?_
     refine av (afU e53) ?_;rcases au h with⟨e55,h⟩|⟨e55,h⟩
     ·cases h;refine dz ?_
      exact q1 _ _ rfl aM eH
     ·refine dz ?_
      refine hK _ _ ?_;exact ih aJ NZ wR N7 (IntKind.wrap .i64 (JD+1)) _ _ _ aM eH _ h _ q0 q1
    ·cases h;refine dz ?_
     exact q0 _ _ rfl aM
def nI (k:Nat) (aJ:List Nd):Option (Int×Int):=
  Option.bind (mW ((aJ.length:Int)==0) 1) fun p2=>Option.bind (mW (decide ((aJ.length:Int)>160)) 2) fun p4=>Option.bind (iQ k [p2,p4]) fun p6=>cond (p6 !=0) (some (0,p6)) (Option.bind (jY k aJ ([]:List Int) (aJ.length:Int) 0) (fun o=>Sum.elim (fun p40=>Option.bind (Aa k aJ) fun p51=>Option.bind (jZ k aJ p51.1 p51.2 (aJ.length:Int) 0) (fun o=>Sum.elim (fun p58=>if 0<=(IntKind.wrap .i64 ((aJ.length:Int) -1))then Option.bind (p40[(IntKind.wrap .i64 ((aJ.length:Int) -1)).toNat]?) fun x65=>cond (x65 !=0) (some ((IntKind.wrap .i64 ((aJ.length:Int) -1)),15)) (some (0,0))else none) (fun p74=>some (p74.1,p74.2)) o)) (fun Bb=>some (Bb.1,Bb.2)) o))
theorem Mv {k:Nat} {aJ:List Nd} {c0:Ck} {r:Int×Int} (h:nI k aJ=some r):aC Tryz.prog 14 [(.aB (aJ.map Nd.cells) c0)] (.dR [(.int .i64 r.1),(.int .i64 r.2)]):=by
  refine aC.lw (.aB .nil) (aC.aP (bn.mem (.cons (bC Nd.pu _) .nil)) (aK awm (by simp) (aD ?_)) (.dR _ (bn.mem (.cons (.int _ _) (.cons (.int _ _) .nil)))));unfold nI at h;unfold ao7;obtain⟨p2,e1,h⟩:=aj h;refine dz ?_
  refine av (mI e1) ?_;obtain⟨p4,e3,h⟩:=aj h;refine dz ?_
  refine av (mI e3) ?_;obtain⟨p6,e5,h⟩:=aj h;refine dz ?_
  refine av (mX e5) ?_;rcases au h with⟨e7,h⟩|⟨e7,h⟩
  ·cases h;refine dz ?_
   exact(dJ (aN (aN .nil)))
  ·refine dz ?_
   obtain⟨o38,h39,h⟩:=aj h;refine RU k (.aB [] .nil) [] ([]++[]) aJ ([]:List Int) (aJ.length:Int) 0 _ _ _ _ (Fr.refl _ _) (HF.refl _ _) eH (by repeat (first|exact aO.nil|apply aO.new|refine aO.put ?_ (fun hm=>by have:=aO.lt aO.nil _ hm;omega))) (fun i hi=>Or.inl (by simp only [List.mem_append,List.mem_cons,hi,true_or,or_true])) _ h39 _ ?_ ?_
   ·rintro p40 v44 aAW σ' H43 eo abk axV s48 r46 aB4;subst eo;rw [bZ]at h;have s49:σ' 0=(.aB (aJ.map Nd.cells) .unk):=(abk 0 (by decide)).trans eH;have le:=axV.1;try simp only [AH.aF,AH.aG,AH.aH,AH.aI]at le
    obtain⟨p51,e50,h⟩:=aj h;refine dz ?_
    refine av (adz e50) ?_;refine dz ?_
    obtain⟨o56,h57,h⟩:=aj h;refine RX k aJ p51.1 p51.2 (aJ.length:Int) 0 _ _ _ (Fr.refl _ _) eH _ h57 _ ?_ ?_
    ·rintro p58 σ' eo aju;subst eo;rw [bZ]at h;have s62:σ' 5=v44:=(aju 5 (by decide)).trans eH;have s63:σ' 8=(.int .i64 (IntKind.wrap .i64 ((aJ.length:Int) -1))):=(aju 8 (by decide)).trans eH;obtain⟨e64,h⟩:=aL h;obtain⟨x65,e66,h⟩:=aj h;obtain⟨w67,w68,aAj,hil,w69,hC,hL,hD,hI⟩:=aO.content r46 e66;have w70:=ne_next hil;have w71:=aR hil;have w72:qL 1 v44 (.int .i64 (IntKind.wrap .i64 ((aJ.length:Int) -1)))=some (.ref w67 ((IntKind.wrap .i64 ((aJ.length:Int) -1)).toNat)):=by simpa using hI .i64 (IntKind.wrap .i64 ((aJ.length:Int) -1)) (by first|omega|decide) (by first|rfl|omega)
     have aAX:w68[(IntKind.wrap .i64 ((aJ.length:Int) -1)).toNat]? =some (.int .i64 x65):=by simpa using hC 0 _ rfl
     clear hC hL hD hI;rcases au h with⟨Qn,h⟩|⟨Qn,h⟩
     ·cases h;refine dz ?_
      exact(dJ (aN (aN .nil)))
     ·cases h;refine dz ?_
      exact(dJ (aN (aN .nil)))
    ·rintro p74 σ' eo aB5 ⟨s78,s79⟩;subst eo;rw [dn]at h;cases h;refine dz ?_
     exact(dJ (aN (aN .nil)))
   ·rintro Bb σ' H83 eo Li ajH ⟨s84,s85⟩;subst eo;rw [dn]at h;have le:=ajH.1;try simp only [AH.aF,AH.aG,AH.aH,AH.aI]at le
    cases h;refine dz ?_
    exact(dJ (aN (aN .nil)))
def nZ (k:Nat) (aJ:List Nd):Option Int:=
  Option.bind (nI k aJ) fun p2=>some p2.2
theorem Qy {k:Nat} {aJ:List Nd} {c0:Ck} {r:Int} (h:nZ k aJ=some r):aC Tryz.prog 58 [(.aB (aJ.map Nd.cells) c0)] (.int .i64 r):=by
  refine aC.lw (.aB .nil) (aC.aP (bn.mem (.cons (bC Nd.pu _) .nil)) (aK awH (by simp) (aD ?_)) (.int _ _));unfold nZ at h;unfold apO;obtain⟨p2,e1,h⟩:=aj h;refine ah ?_
  refine av (Mv e1) ?_;cases h;refine ah ?_
  exact(.pure _ (.int _ _))
end Go.VL
end
section
namespace Go.VL
theorem anC (s p:Str):dZ s p=some (decide (p.length<=s.length)&&decide (s.take p.length=p)):=by
  unfold dZ ru;by_cases h:p.length<=s.length
  · have h':(s.length:Int)>=(p.length:Int):=by omega
    simp only [h,h',decide_true,cond_true,if_true,Option.bind_some,Bool.true_and,sM]
  · have h': ¬(s.length:Int)>=(p.length:Int):=by omega
    simp only [h,h',decide_false,cond_false,Option.bind_some,Bool.false_and]
theorem auw (s:Str) (a b c:UInt8):dZ s [a,b,c]=some (decide (s.take 3=[a,b,c])):=by
  rw [anC];congr 1
  show(decide (3<=s.length)&&decide (s.take 3=[a,b,c]))=_
  by_cases h:s.take 3=[a,b,c]
  · have:=congrArg List.length h;rw [List.length_take]at this;have h3:3<=s.length:=by simp at this;omega
    simp [h,h3]
  · simp [h]
theorem ajS (s:Str):decide (s∈Jy)=(decide (s∈JZ)||oJ s):=by
  have h1:Jy=JZ++[[66,79,79,76,69,65,78],[83,84,82,73,78,71]]:=by kernel_rfl
  have h2:([84,82,85,69]:Str)∈JZ:=by decide+kernel
  have h3:([70,65,76,83,69]:Str)∈JZ:=by decide+kernel
  rw [h1];unfold oJ;by_cases a:s=[84,82,85,69]
  · subst a;simp [h2]
  by_cases b:s=[70,65,76,83,69]
  · subst b;simp [h3]
  by_cases c:s∈JZ<;>simp [a,b,c]
theorem ajT:Jy.length=52:=by kernel_rfl
theorem afZ (s:Str):(sH s).length=s.length:=by simp [sH]
theorem af0 (s:Str) {i:Nat} (h:i<s.length):(sH s)[i]? =some (s[i].toNat:Int):=by simp [sH,h]
theorem ame (c:UInt8):IntKind.wrap .i64 (c.toNat:Int)=(c.toNat:Int):=by have:=c.toNat_lt;exact wrap64 (by omega) (by omega)
def N8 (s:Str):Nat:=s.countP isLet
theorem ajU (s:Str):decide ((N8 s:Int)>0)=s.any isLet:=by
  unfold N8
  induction s with
  |nil=>rfl
  |cons c l ih=>
    rw [List.countP_cons,List.any_cons];by_cases h:isLet c=true
    · simp only [h,if_true,Bool.true_or,decide_eq_true_eq];omega
    · rw [if_neg h,Nat.add_zero,ih];simp [h]
theorem XH (c:UInt8):(Option.bind (gU (c.toNat:Int) 97 122) fun p26=>yQ (c.toNat:Int) p26)=some (isLet c):=by
  unfold yQ;simp only [rz,Option.bind_some,ame];unfold isLet;have e1:((97:Int)<=(c.toNat:Int)/\(c.toNat:Int)<=122)=(97<=c.toNat/\c.toNat<=122):=by rw [eq_iff_iff];omega
  have e2:((65:Int)<=(c.toNat:Int)/\(c.toNat:Int)<=90)=(65<=c.toNat/\c.toNat<=90):=by rw [eq_iff_iff];omega
  simp only [e1,e2];cases decide (97<=c.toNat/\c.toNat<=122)<;>rfl
theorem qc (s:Str):Ev (fun k=>oK k s) (rName s):=by
  unfold oK DJ;simp only [rz,Option.bind_some,auw];by_cases h1:1<=s.length/\s.length<=24
  · have e1:(decide ((1:Int)<=(s.length:Int)/\(s.length:Int)<=24))=true:=decide_eq_true (by omega);simp only [e1,Bool.not_true,cond_false];refine Ev.bind (x:=TD s||decide (s∈Jy)) ?_ ?_
    · unfold TD;cases decide (s.take 3=[87,70,95])
      · cases decide (s.take 3=[83,70,95])
        · exact Ev.bind (EH _ _ (by rw [ajT];omega)) (Ev.some' (by simp only [Bool.false_or]))
        · exact Ev.some
      · exact Ev.some
    · have hspec:rName s=(!(TD s||decide (s∈Jy))&&s.all jG&&s.any isLet):=by
        rw [ajS];unfold rName bName;simp only [h1,and_self,decide_true,Bool.true_and];cases decide (s∈JZ)<;>cases oJ s<;>cases TD s<;>cases s.all jG<;>cases s.any isLet<;>rfl
      rw [hspec];cases(TD s||decide (s∈Jy))
      · simp only [cond_false,Bool.not_false,Bool.true_and];have hb:s.length<=1099511627776:=by omega
        have key: ∀m:Nat,m<=0->Ev (fun k=>kR k (m:Int) (sH s) (s.length:Int) ((0:Nat):Int)) (if(s.drop 0).all jG=true then .inl ((m+N8 (s.drop 0):Nat):Int)else .inr false):=by
          refine lq (len:=s.length) (p:=fun i=> ∀m:Nat,m<=i->Ev (fun k=>kR k (m:Int) (sH s) (s.length:Int) (i:Int)) (if(s.drop i).all jG=true then .inl ((m+N8 (s.drop i):Nat):Int)else .inr false)) ?_ fun i hi ih m hm=> ?_
          · intro m hm;refine Ev.succ ?_;simp only [kR];exact Ev.cF (jU _) (Ev.some' (by simp only [List.drop_length,List.all_nil,if_true,N8,List.countP_nil,Nat.add_zero]))
          · refine Ev.succ ?_;have hp1:=XH s[i];simp only [rz,Option.bind_some]at hp1;simp only [kR,Int.toNat_natCast,af0 s hi,Option.bind_some,nn,if_true,mh hi,cond_true,eT hi hb,rz,ame];refine Ev.lV hp1 ?_;have hcount:N8 (s.drop i)=(if isLet s[i]=true then 1 else 0)+N8 (s.drop (i+1)):=by
              unfold N8;rw [drop_cons hi,List.countP_cons,Nat.add_comm]
            rw [hcount];have hall:(s.drop i).all jG=(jG s[i]&&(s.drop (i+1)).all jG):=by rw [drop_cons hi,List.all_cons]
            rw [hall];by_cases h2:isLet s[i]=true
            · have hc:jG s[i]=true:=by unfold jG;rw [h2];rfl
              refine Ev.cT h2 ?_;rw [eT (i:=m) (n:=i+1) (by omega) (by omega)];refine(ih (m+1) (by omega)).to ?_;simp only [hc,h2,if_true,Bool.true_and,Nat.add_assoc]
            · have h2':isLet s[i]=false:=by simpa using h2
              refine Ev.cF h2' ?_;simp only [h2',Bool.false_eq_true,if_false,Nat.zero_add];have e3:((48:Int)<=(s[i].toNat:Int)/\(s[i].toNat:Int)<=57)=(48<=s[i].toNat/\s[i].toNat<=57):=by rw [eq_iff_iff];omega
              by_cases h3:48<=s[i].toNat/\s[i].toNat<=57
              · have hc:jG s[i]=true:=by unfold jG pI;simp [h3]
                refine Ev.cT (decide_eq_true (e3▸h3)) ((ih m (by omega)).to ?_);simp only [hc,Bool.true_and]
              · refine Ev.cF (decide_eq_false (e3▸h3)) ?_;by_cases h4:s[i].toNat=95
                · have hc:jG s[i]=true:=by unfold jG;simp [h4]
                  refine Ev.cF (by rw [h4];rfl) ((ih m (by omega)).to ?_);simp only [hc,Bool.true_and]
                · have hc:jG s[i]=false:=by unfold jG pI;rw [h2'];simp [h4];omega
                  refine Ev.cT (by rw [bne_iff_ne];omega) (Ev.some' ?_);simp only [hc,Bool.false_and,Bool.false_eq_true,if_false]
        have ar9:=key 0 (Nat.le_refl _);rw [List.drop_zero,Nat.zero_add]at ar9;simp only [afZ];refine Ev.bind ar9 ?_;by_cases h3:s.all jG=true
        · simp only [h3,if_true,bZ,Bool.true_and];exact Ev.some' (ajU s)
        · simp only [h3,if_false,dn];exact Ev.some' (by simp [h3])
      · exact Ev.some
  · have e1:(decide ((1:Int)<=(s.length:Int)/\(s.length:Int)<=24))=false:=decide_eq_false (by omega);simp only [e1,Bool.not_false,cond_true,Option.bind_some];exact Ev.some' (by simp [rName,bName,h1])
theorem TS (s:Str):(Lib.indexByte s 33= -1/\bang s=none)\/ ∃i:Nat,Lib.indexByte s 33=(i:Int)/\i<s.length/\bang s=some (s.take i,s.drop (i+1)):=by
  induction s with
  |nil=>exact .inl ⟨rfl,rfl⟩
  |cons c l ih=>
    by_cases h:c=33
    · subst h;exact .inr ⟨0,rfl,by simp,by simp [bang]⟩
    · have hc:(c==33)=false:=beq_eq_false_iff_ne.2 h;rcases ih with⟨h1,h2⟩|⟨i,h1,h2,h3⟩
      · exact .inl ⟨by simp [Lib.indexByte,hc,h1],by simp [bang,h,h2]⟩
      · refine .inr ⟨i+1,?_,by simp;omega,by simp [bang,h,h3]⟩;have:((i:Int)== -1)=false:=by rw [beq_eq_false_iff_ne];omega
        simp [Lib.indexByte,hc,h1,this]
theorem N9 {s:Str} (h:rName s=true):s.length<=24:=by
  unfold rName bName at h;simp only [Bool.and_eq_true,decide_eq_true_eq]at h;exact h.1.1.1.1.1.2
theorem Mw (s:Str) (hb:s.length<=1000000):Ev (fun k=>xI k s) (gq s):=by
  unfold xI abz;by_cases hl:s.length<=49
  · refine Ev.cF (decide_eq_false (by omega)) ?_;unfold gq;rcases TS s with⟨h1,h2⟩|⟨i,h1,h2,h3⟩
    · simp only [h1,h2,Option.bind_some];refine Ev.cF (by decide) (Ev.bind (qc s) ?_);cases rName s<;>exact Ev.some
    · simp only [h1,h3,Option.bind_some];refine Ev.cT (decide_eq_true (by omega)) (Ev.aX ⟨by omega,by omega⟩ ?_);rw [eT h2 (by omega)];refine Ev.aX ⟨by omega,by omega⟩ (Ev.bind (qc _) ?_);simp only [Int.toNat_natCast];cases rName (s.take i)
      · exact Ev.some
      · simp only [cond_true,Bool.true_and];exact Ev.bind (qc _) Ev.some
  · refine Ev.cT (decide_eq_true (by omega)) (Ev.some' ?_);unfold gq;rcases TS s with⟨h1,h2⟩|⟨i,h1,h2,h3⟩
    · simp only [h2];cases h:rName s
      · rfl
      · exact absurd (N9 h) (by omega)
    · simp only [h3];cases h:rName (s.take i)
      · rfl
      · cases h':rName (s.drop (i+1))
        · rfl
        · have a:=N9 h;have b:=N9 h';rw [List.length_take]at a;rw [List.length_drop]at b;omega
theorem adC (s:Str):wB s=some (qD s):=by
  unfold wB qD;have h:(!afQ s)=s.all J2:=by
    unfold afQ
    induction s with
    |nil=>rfl
    |cons c l ih=>
      rw [List.any_cons,List.all_cons,Bool.not_or,ih];congr 1
      unfold RO J2;generalize c.toNat=n;by_cases h1:32<=n<;>by_cases h2:n<=126<;>by_cases h3:n=34<;>by_cases h4:n=92<;>simp [h1,h2,h3,h4]
  rw [h];by_cases hl:s.length<=40
  · have:(s.length:Int)<=40:=by omega
    simp [hl,this]
  · have: ¬(s.length:Int)<=40:=by omega
    simp [hl,this]
theorem Oa {l:List Operator} {t:Str} (h: ¬t∈l.map (·.text)):bH l t=(Bo,false):=by
  induction l with
  |nil=>rfl
  |cons o l ih=>
    simp only [List.map_cons,List.mem_cons,not_or]at h;rw [bH,if_neg (fun e=>h.1 e.symm),ih h.2]
theorem axW (t:Str):bH oO t=bH bU t:=by
  have h1:((oO.map (·.text)).all fun t=>decide (bH oO t=bH bU t))=true:=by kernel_rfl
  have h2:((bU.map (·.text)).all fun t=>decide (t∈oO.map (·.text)))=true:=by kernel_rfl
  by_cases h:t∈oO.map (·.text)
  · exact of_decide_eq_true (List.all_eq_true.1 h1 t h)
  · rw [Oa h,Oa (fun h'=>h (of_decide_eq_true (List.all_eq_true.1 h2 t h')))]
theorem ajV:oO.length=42:=by kernel_rfl
theorem rH (t:Str):Ev (fun k=>kS k t) (bH bU t):=by
  rw [<-axW];have hl:oO.length<=1099511627776:=by rw [ajV];omega
  have key: ∃o:Unit⊕Int,Ev (fun k=>aV k oO t (oO.length:Int) ((0:Nat):Int)) o/\((o= .inl ()/\bH (oO.drop 0) t=(Bo,false))\/ ∃(j:Nat) (x:Operator),o= .inr (j:Int)/\oO[j]? =some x/\bH (oO.drop 0) t=(x,true)):=by
    refine lq (len:=oO.length) (p:=fun i=> ∃o:Unit⊕Int,Ev (fun k=>aV k oO t (oO.length:Int) (i:Int)) o/\((o= .inl ()/\bH (oO.drop i) t=(Bo,false))\/ ∃(j:Nat) (x:Operator),o= .inr (j:Int)/\oO[j]? =some x/\bH (oO.drop i) t=(x,true))) ?_ fun i hi ⟨o,ih,ho⟩=> ?_
    · refine⟨.inl (),Ev.succ ?_,.inl ⟨rfl,by simp [bH]⟩⟩;simp only [aV];exact Ev.cF (jU _) Ev.some
    · by_cases h:oO[i].text=t
      · refine⟨.inr (i:Int),Ev.succ ?_,.inr ⟨i,oO[i],rfl,bE hi,by rw [drop_cons hi,bH,if_pos h]⟩⟩;simp only [aV,sJ,Int.toNat_natCast,bE hi,Option.bind_some,nn,if_true,mh hi,cond_true,eT hi hl];exact Ev.cT (by rw [beq_iff_eq];exact h) Ev.some
      · refine⟨o,Ev.succ ?_,by rw [drop_cons hi,bH,if_neg h];exact ho⟩;simp only [aV,sJ,Int.toNat_natCast,bE hi,Option.bind_some,nn,if_true,mh hi,cond_true,eT hi hl];exact Ev.cF (by rw [beq_eq_false_iff_ne];exact h) ih
  obtain⟨o,h1,h2⟩:=key;rw [List.drop_zero]at h2;unfold kS fB;rcases h2 with⟨rfl,h2⟩|⟨j,x,rfl,h3,h2⟩
  · refine Ev.bind (x:= -1) (Ev.bind h1 Ev.some) ?_;rw [h2];exact Ev.cT (by decide) Ev.some
  · refine Ev.bind (x:=(j:Int)) (Ev.bind h1 Ev.some) ?_;rw [h2];simp only [Int.toNat_natCast,h3,Option.bind_some,nn,if_true];exact Ev.cF (decide_eq_false (by omega)) Ev.some
def Mx:List Int->Int
  |[]=>0
  |a::l=>if a=0 then Mx l else a
theorem Kl (l:List Int) (hl:l.length<=1099511627776):Ev (fun k=>iQ k l) (Mx l):=by
  have key:Ev (fun k=>iG k l (l.length:Int) ((0:Nat):Int)) (if Mx (l.drop 0)=0 then .inl ()else .inr (Mx (l.drop 0))):=by
    refine lq (len:=l.length) (p:=fun i=>Ev (fun k=>iG k l (l.length:Int) (i:Int)) (if Mx (l.drop i)=0 then .inl ()else .inr (Mx (l.drop i)))) ?_ fun i hi ih=> ?_
    · refine Ev.succ ?_;simp only [iG];exact Ev.cF (jU _) (Ev.some' (by simp [Mx]))
    · refine Ev.succ ?_;simp only [iG,Int.toNat_natCast,bE hi,Option.bind_some,nn,if_true,mh hi,cond_true,eT hi hl];rw [drop_cons hi,Mx];by_cases h:l[i]=0
      · refine Ev.cF (by rw [h];rfl) (ih.to ?_);simp only [h,if_true]
      · refine Ev.cT (by rw [bne_iff_ne];exact h) (Ev.some' ?_);simp only [h,if_false]
  unfold iQ;refine Ev.bind key ?_;rw [List.drop_zero];by_cases h:Mx l=0
  · simp only [h,if_true,bZ];exact Ev.some
  · simp only [h,if_false,dn];exact Ev.some
theorem adD (l:List Str) (hl:l.length<=1099511627776):Ev (fun k=>fU k l) (!l.all rName):=by
  have key: ∃o:Unit⊕Int,Ev (fun k=>bN k l (l.length:Int) ((0:Nat):Int)) o/\((o= .inl ()/\(l.drop 0).all rName=true)\/(∃j:Nat,o= .inr (j:Int))/\(l.drop 0).all rName=false):=by
    refine lq (len:=l.length) (p:=fun i=> ∃o:Unit⊕Int,Ev (fun k=>bN k l (l.length:Int) (i:Int)) o/\((o= .inl ()/\(l.drop i).all rName=true)\/(∃j:Nat,o= .inr (j:Int))/\(l.drop i).all rName=false)) ?_ fun i hi ⟨o,ih,ho⟩=> ?_
    · refine⟨.inl (),Ev.succ ?_,.inl ⟨rfl,by simp⟩⟩;simp only [bN];exact Ev.cF (jU _) Ev.some
    · have hn:Ev (fun k=>wJ k l[i]) (!rName l[i]):=by unfold wJ;exact Ev.bind (qc _) Ev.some
      by_cases h:rName l[i]=true
      · refine⟨o,Ev.succ ?_,by rw [drop_cons hi,List.all_cons,h,Bool.true_and];exact ho⟩;simp only [bN,Int.toNat_natCast,bE hi,Option.bind_some,nn,if_true,mh hi,cond_true,eT hi hl];exact Ev.bind hn (Ev.cF (by rw [h];rfl) ih)
      · have h:rName l[i]=false:=by simpa using h
        refine⟨.inr (i:Int),Ev.succ ?_,.inr ⟨⟨i,rfl⟩,by rw [drop_cons hi,List.all_cons,h,Bool.false_and]⟩⟩;simp only [bN,Int.toNat_natCast,bE hi,Option.bind_some,nn,if_true,mh hi,cond_true,eT hi hl];exact Ev.bind hn (Ev.cT (by rw [h];rfl) Ev.some)
  obtain⟨o,h1,h2⟩:=key;rw [List.drop_zero]at h2;unfold fU;rcases h2 with⟨rfl,h2⟩|⟨⟨j,rfl⟩,h2⟩
  · refine Ev.bind (x:= -1) (by unfold gN;exact Ev.bind h1 Ev.some) (Ev.some' ?_);rw [h2];rfl
  · refine Ev.bind (x:=(j:Int)) (by unfold gN;exact Ev.bind h1 Ev.some) (Ev.some' ?_);rw [h2];simp
theorem ajW (a b:Int) (c:Str) (l:List Str) (d:List Int) (hl:l.length<=1099511627776):Ev (fun k=>jh k a b c l d false l (l.length:Int) 0) (wz [] l):=by
  have key: ∀x:Bool,Ev (fun k=>jh k a b c l d x l (l.length:Int) ((0:Nat):Int)) (x||wz (l.take 0) (l.drop 0)):=by
    refine lq (len:=l.length) (p:=fun i=> ∀x:Bool,Ev (fun k=>jh k a b c l d x l (l.length:Int) (i:Int)) (x||wz (l.take i) (l.drop i))) (fun x=> ?_) fun i hi ih x=> ?_
    · refine Ev.succ ?_;simp only [jh];exact Ev.cF (jU _) (Ev.some' (by simp [wz]))
    · refine Ev.succ ?_;have h2:i<=l.length:=by omega
      simp only [jh,Int.toNat_natCast,bE hi,Option.bind_some,nn,if_true,mh hi,cond_true,eT hi hl,true_and,h2];rw [drop_cons hi,wz,<-List.take_succ_eq_append_getElem hi];cases x
      · refine Ev.cF rfl (Ev.bind (EH _ _ (by rw [List.length_take];omega)) ?_);simp only [Bool.false_or];exact ih _
      · exact Ev.cT rfl ((ih true).to (by simp))
  exact key false
def abN (n:Nd):Bool:= !(n.names.all rName)||(decide (n.kind=2)&& !oJ n.text&& !gq n.text)||(decide (n.kind=3)&& !(bH bU n.text).2&& !gq n.text)||(decide (n.kind=18)&& !rName n.text)
def arT (n:Nd):Bool:=decide (n.kind=3)&&(bH bU n.text).2&& !fK (n.args.length:Int) (bH bU n.text).1.least (bH bU n.text).1.most
def Km (n:Nd):Int:=if abN n=true then 7 else if arT n=true then 17 else if wz [] n.names=true then 12 else 0
theorem Zw (n:Nd) (h1:n.text.length<=1000000) (h2:n.names.length<=1000000):Ev (fun k=>pJ k n) (Km n):=by
  unfold pJ;refine Ev.bind (adD _ (by omega)) (Ev.bind (rH _) (Ev.bind (x:=(abN n,arT n)) ?_ ?_))
  · unfold ze abN arT fK;by_cases a:n.kind=2
    · simp only [a];refine Ev.cT rfl (Ev.bind (x:= !(n.names.all rName)||(!oJ n.text&& !gq n.text)) ?_ (Ev.some' (by simp)));unfold yZ;cases n.names.all rName
      · exact Ev.some
      · refine Ev.cF rfl ?_;simp only [abr,Option.bind_some];cases oJ n.text
        · exact Ev.bind (Mw _ h1) (Ev.some' (by simp))
        · exact Ev.some
    by_cases b:n.kind=3
    · simp only [b];refine Ev.cF rfl (Ev.cT rfl (Ev.bind (x:= !(n.names.all rName)||(!(bH bU n.text).2&& !gq n.text)) ?_ ?_))
      · unfold y5;cases n.names.all rName
        · exact Ev.some
        · refine Ev.cF rfl ?_;cases(bH bU n.text).2
          · exact Ev.bind (Mw _ h1) (Ev.some' (by simp))
          · exact Ev.some
      · unfold y7;simp only [rz,Option.bind_some];cases(bH bU n.text).2
        · exact Ev.some' (by simp)
        · exact Ev.some' (by simp)
    by_cases c:n.kind=18
    · simp only [c];refine Ev.cF rfl (Ev.cF rfl (Ev.cT rfl (Ev.bind (x:= !(n.names.all rName)|| !rName n.text) ?_ (Ev.some' (by simp)))));unfold za;cases n.names.all rName
      · exact Ev.some
      · exact Ev.cF rfl (Ev.bind (qc _) (Ev.some' (by simp)))
    · refine Ev.cF (beq_eq_false_iff_ne.2 a) (Ev.cF (beq_eq_false_iff_ne.2 b) (Ev.cF (beq_eq_false_iff_ne.2 c) (Ev.some' ?_)));simp [a,b,c]
  · refine Ev.bind (ajW _ _ _ n.names _ (by omega)) ?_;simp only [Bn,Option.bind_some];refine Ev.bind (Kl _ (by simp)) (Ev.some' ?_);unfold Km;cases abN n<;>cases arT n<;>cases wz [] n.names<;>rfl
def Ef (n:Nd):Shape:=
  if n.kind=0 then Shape.mk (0,0) (0,0) false true else
  if n.kind=1\/n.kind=2 then Shape.mk (0,0) (0,0) true false else
  if n.kind=3 then(if(bH bU n.text).2=true then Shape.mk (0,0) ((n.args.length:Int),(n.args.length:Int)) true false else Shape.mk (0,0) (1,4) true false)else
  if n.kind=4\/n.kind=5 then Shape.mk (0,0) (0,30) false false else
  if n.kind=6\/n.kind=12 then Shape.mk (1,1) (2,2) false false else
  if n.kind=7\/n.kind=8\/n.kind=9\/n.kind=13 then Shape.mk (1,4) ((n.names.length:Int)+1,(n.names.length:Int)+1) false false else
  if n.kind=10\/n.kind=11 then Shape.mk (1,4) (1,1) false false else
  if n.kind=14 then Shape.mk (0,0) (2,5) false false else
  if n.kind=16\/n.kind=17 then Shape.mk (1,30) ((n.names.length:Int),(n.names.length:Int)) false false else
  if n.kind=18 then Shape.mk (0,0) (1,1) true false else
  if n.kind=19\/n.kind=21 then Shape.mk (0,0) (3,3) false false else
  if n.kind=20 then Shape.mk (0,0) (0,0) false false else
  if n.kind=22 then Shape.mk (0,0) (2,30) false false else
  if n.kind=23 then Shape.mk (1,5) (2,2) false true else
  if n.kind=24 then Shape.mk (1,4) (1,1) false false else Shape.mk (0,0) (2,2) false false
theorem kinds {k:Int} (h:fK k 0 28=true):k=0\/k=1\/k=2\/k=3\/k=4\/k=5\/k=6\/k=7\/k=8\/k=9\/k=10\/k=11\/k=12\/k=13\/k=14\/k=15\/k=16\/k=17\/k=18\/k=19\/k=20\/k=21\/k=22\/k=23\/k=24\/k=25\/k=26\/k=27\/k=28:=by
  unfold fK at h;rw [decide_eq_true_eq]at h;omega
theorem abO (n:Nd) (hk:fK n.kind 0 28=true) (h2:n.names.length<=1000000):Ev (fun k=>Ab k n) (Ef n):=by
  have hw:IntKind.wrap .i64 ((n.names.length:Int)+1)=(n.names.length:Int)+1:=wrap64 (by omega) (by omega);rcases kinds hk with h|h|h|h|h|h|h|h|h|h|h|h|h|h|h|h|h|h|h|h|h|h|h|h|h|h|h|h|h
  case' inr.inr.inr.inl=>
    unfold Ab wH Ef;simp only [h];refine Ev.cF rfl ?_;refine Ev.cg (Ev.bind (rH n.text) (g:=fun k (sj:Operator×Bool)=>cond sj.2 (some (Shape.mk (0,0) ((n.args.length:Int),(n.args.length:Int)) true false)) (some (Shape.mk (0,0) (1,4) true false))) ?_) (fun k=>rfl);cases(bH bU n.text).2<;>exact Ev.some
  all_goals
    unfold Ab wH Bt Bu Bv Bw Bz BA uX Ef;simp only [h,hw];exact Ev.some
theorem asa (n:Nd) (hk:fK n.kind 0 28=true):(fK (n.names.length:Int) (Ef n).names.1 (Ef n).names.2&&fK (n.args.length:Int) (Ef n).operands.1 (Ef n).operands.2)=ql n:=by
  have d {a b:Int} (P:Prop) [Decidable P] (h:a=b) (x y:Int):fK a x y=fK b x y:=by rw [h]
  rcases kinds hk with h|h|h|h|h|h|h|h|h|h|h|h|h|h|h|h|h|h|h|h|h|h|h|h|h|h|h|h|h
  case' inr.inr.inr.inl=>
    unfold Ef ql;simp only [h];cases(bH bU n.text).2
    · show(fK _ 0 0&&fK _ 1 4)=(fK _ 0 0&&fK _ 1 4)
      simp [aS,sI,uf]
    · show(fK _ 0 0&&fK _ _ _)=(fK _ 0 0&&fK _ 0 _)
      unfold fK;simp [aS,sI,uf]
  all_goals
    unfold Ef ql;simp only [h];unfold fK;rw [Bool.eq_iff_iff];simp [aS,sI,uf,AO,AP,AQ,AU,AV,AX];try omega
def clT (n:Nd):Bool:=((Ef n).text||decide (n.text=[]))&&((Ef n).number||decide (n.n=0))&&(!decide (n.kind=1)||qD n.text)&&(!decide (n.kind=23)||fK n.n 0 1)
theorem asb (n:Nd) (hk:fK n.kind 0 28=true):clT n=mo n:=by
  rcases kinds hk with h|h|h|h|h|h|h|h|h|h|h|h|h|h|h|h|h|h|h|h|h|h|h|h|h|h|h|h|h
  case' inr.inr.inr.inl=>
    unfold clT mo Ef;simp only [h];cases(bH bU n.text).2<;>simp
  all_goals
    unfold clT mo Ef;simp only [h];simp [and_comm]
theorem ahQ (n:Nd):Km n=if oq n≠0 then oq n else if wz [] n.names=true then 12 else 0:=by
  unfold Km abN arT oq;cases n.names.all rName
  · simp
  by_cases a:n.kind=2
  · simp only [a];cases oJ n.text<;>cases gq n.text<;>simp
  by_cases b:n.kind=3
  · simp only [b];cases(bH bU n.text).2<;>cases gq n.text<;>cases fK (n.args.length:Int) (bH bU n.text).1.least (bH bU n.text).1.most<;>simp
  by_cases c:n.kind=18
  · simp only [c];cases rName n.text<;>simp
  · simp [a,b,c]
theorem axX {e:List Nd} {i:Nat} {acc:List Int} (h:qO e i acc) (hi:i<=1000000) (l:List Int): ∀(m:Nat),m<=l.length-> ∀nx:Nat,nx<=i-> ∀tg:Bool,
    ∃z,nY m acc ((nx:Int) -1) tg l=some (if tF acc nx (l.take m).reverse=true then .inr (z,tg)else .inl (z,false)):=by
  intro m
  induction m with
  |zero=>intro _ nx _ tg;exact⟨(nx:Int) -1,by simp [nY,tF]⟩
  |succ m ih=>
    intro hm nx hnx tg;have hm':m<l.length:=by omega
    rw [nY,bE hm',Option.bind_some,abv hm',tF];by_cases h1:l[m]=(nx:Int) -1
    · rw [uO (by rw [h1];simp)];by_cases h2:nx<1
      · refine⟨(nx:Int) -1,?_⟩;rw [Ar (decide_eq_true (by omega))];have: ¬(1:Int)<=nx:=by omega
        simp [this]
      · obtain⟨j,rfl⟩: ∃j,nx=j+1:=⟨nx -1,by omega⟩;have e2:(((j+1:Nat):Int) -1)=(j:Int):=by omega
        rw [e2]at h1⊢;obtain⟨n',b,h3,h4,h5,h6,_⟩:=h.at_ j (by omega);obtain⟨b,rfl⟩: ∃b':Nat,b=b':=⟨b.toNat,by omega⟩;obtain⟨z,hz⟩:=ih (by omega) b (by omega) tg;refine⟨z,?_⟩;rw [uO (decide_eq_false (by omega)),if_pos (by omega),Int.toNat_natCast,h4,Option.bind_some,wrap64 (by omega) (by omega),hz];have e3:(1:Int)<=((j+1:Nat):Int):=by omega
        simp only [h1,e3,decide_true,Bool.true_and,Option.getD_some]
    · refine⟨(nx:Int) -1,?_⟩;rw [Ar (by rw [bne_iff_ne];exact h1)];simp [h1]
theorem abP {e:List Nd} {i:Nat} {acc:List Int} (h:qO e i acc) (hi:i<=1000000) {n:Nd} (hn:e[i]? =some n) (h1:n.text.length<=1000000) (h2:n.names.length<=1000000) (h3:n.args.length<=1000000):
    Ev (fun k=>Ee k e (i:Int) acc) (bW (tF acc i n.args.reverse) n):=by
  unfold Ee;simp only [Int.toNat_natCast,hn,Option.bind_some,nn,if_true,rz,Bn];unfold bW;by_cases hk:fK n.kind 0 28=true
  case neg=>exact Ev.to (Ev.cF (by simpa [fK]using hk) Ev.some) (if_pos (by simpa using hk)).symm
  refine Ev.to ?_ (if_neg (by simp [hk])).symm;refine Ev.cT hk (Ev.bind (abO n hk h2) (Ev.lV (x:= !ql n) ?_ ?_))
  · rw [<-asa n hk];unfold BL fK;simp only [rz,Option.bind_some];cases decide ((Ef n).names.1<=(n.names.length:Int)/\(n.names.length:Int)<=(Ef n).names.2)
    · rfl
    · rfl
  cases hs:ql n
  · exact Ev.some
  simp only [Bool.not_true,cond_false,Bool.true_eq_false,if_false];obtain⟨z,hz⟩:=axX h hi n.args n.args.length (Nat.le_refl _) i (Nat.le_refl _) true;rw [List.take_length]at hz;generalize tF acc (i:Int) n.args.reverse=pl at hz⊢;have hj:wO acc n.kind n.n n.text n.names n.args (IntKind.wrap .i64 ((i:Int) -1)) true=some (z,pl):=by
    unfold wO;rw [if_pos (by omega),wrap64 (by omega) (by omega),hz];cases pl<;>rfl
  refine Ev.lV hj (Ev.lV (x:=mo n) ?_ ?_)
  · rw [<-asb n hk];unfold BR clT fK;simp only [adC,rz,Option.bind_some,sM,bne];have e1:((n.n==0):Bool)=decide (n.n=0):=by by_cases h:n.n=0<;>simp [h]
    have e2:((n.kind==1):Bool)=decide (n.kind=1):=by by_cases h:n.kind=1<;>simp [h]
    have e3:((n.kind==23):Bool)=decide (n.kind=23):=by by_cases h:n.kind=23<;>simp [h]
    simp only [e1,e2,e3];cases(Ef n).text<;>cases(Ef n).number<;>cases decide (n.text=[])<;>cases decide (n.n=0)<;>cases decide (n.kind=1)<;>cases qD n.text<;>cases decide (n.kind=23)<;>rfl
  have fin:Ev (fun k=>Option.bind (pJ k n) fun p=>Option.bind (iQ k [if(!(pl&&mo n))=true then 5 else 0,if(!decide (n.kind=23)&& !fK n.n 0 10000)=true then 3 else 0,p]) fun q=>some q) (Mx [if(!(pl&&mo n))=true then 5 else 0,if(!decide (n.kind=23)&& !fK n.n 0 10000)=true then 3 else 0,Km n]):=
    Ev.bind (Zw n h1 h2) (Ev.bind (Kl _ (by simp)) Ev.some)
  have hval:Mx [if(!(pl&&mo n))=true then 5 else 0,if(!decide (n.kind=23)&& !fK n.n 0 10000)=true then 3 else 0,Km n]=
      if(pl&&mo n)=false then 5 else if(decide (n.kind=0)&& !fK n.n 0 10000)=true then 3 else if oq n≠0 then oq n else if wz [] n.names=true then 12 else 0:=by
    rw [<-ahQ];cases hpc:(pl&&mo n)
    · rfl
    · have hcl:mo n=true:=by revert hpc;cases pl<;>simp
      have hrg:(!decide (n.kind=23)&& !fK n.n 0 10000)=(decide (n.kind=0)&& !fK n.n 0 10000):=by
        unfold mo at hcl;simp only [Bool.and_eq_true]at hcl;have hx:=hcl.1.1.2;by_cases a:n.kind=0
        · simp [a]
        by_cases b:n.kind=23
        · simp [b]
        have hx:n.n=0:=by simpa [a,b]using hx
        simp [a,b,hx,fK]
      simp only [Bool.not_true,Bool.false_eq_true,if_false,Bool.true_eq_false,Mx,if_true,hrg];cases(decide (n.kind=0)&& !fK n.n 0 10000)
      · simp only [Bool.false_eq_true,if_false,if_true];split
        · rename_i h;exact h.symm
        · rfl
      · rfl
  rw [<-hval];refine Ev.cg fin fun k=> ?_;cases pl
  · simp only [cond_false];by_cases hl:n.kind=23
    · simp only [hl];rfl
    · rw [uO (beq_eq_false_iff_ne.2 hl)];simp only [hl,decide_false,Bool.not_false,Bool.true_and,Bool.false_and];rfl
  · simp only [cond_true];by_cases hl:n.kind=23
    · simp only [hl];rfl
    · rw [uO (beq_eq_false_iff_ne.2 hl)];simp only [hl,decide_false,Bool.not_false,Bool.true_and];rfl
theorem P7 {e:List Nd} (hL:Bq e): ∀i,i<=e.length-> ∀acc,qO e i acc->Ev (fun k=>jY k e acc (e.length:Int) (i:Int)) (ou acc (e.drop i)):=by
  have hlen:=hL.len;refine down (fun acc h=> ?_) (fun i hi ih acc h=> ?_)
  · refine Ev.succ ?_;simp only [jY];exact Ev.cF (jU _) (Ev.some' (by simp [ou]))
  · refine Ev.succ ?_;obtain⟨h1,h2,h3⟩:=hL.nd i _ (bE hi);simp only [jY];refine Ev.cT (mh hi) (Ev.bind (abP h (by omega) (bE hi) h1 h2 h3) ?_);rw [drop_cons hi,ou,h.len];by_cases hc:bW (tF acc i e[i].args.reverse) e[i]=0
    · refine Ev.cF (by rw [hc];rfl) ?_;have af2:=h.len;have hp:=yL hc;have hok:=h.succ (bE hi) hp;refine Ev.aX (by omega) (Ev.lV (x:=zF acc e[i]) ?_ (Ev.aX (nn i) (Ev.lV (x:=0) ?_ ?_)))
      · unfold Pb zF;simp only [Int.toNat_natCast,bE hi,Option.bind_some,nn,if_true];cases hargs:e[i].args with
        |nil=>simp [af2]
        |cons a l=>
          have ha:=Xm h _ i (Nat.le_refl _) hp a (by rw [hargs];simp);obtain⟨n',b,h4,h5,_⟩:=h.at_ a.toNat (by omega);rw [uO (by rw [beq_eq_false_iff_ne,List.length_cons];omega),List.getElem?_cons_zero,Option.bind_some,if_pos ha.1,List.getElem?_append_left (by omega),h5];simp only [h5,Option.getD_some,Option.bind_some]
      · rw [Int.toNat_natCast,List.getElem?_append_right (by omega),af2,Nat.sub_self];rfl
      · have e1:(acc++[0]).set ((i:Int).toNat) (zF acc e[i])=acc++[zF acc e[i]]:=by
          rw [Int.toNat_natCast,List.set_append_right _ _ (by omega),af2,Nat.sub_self];rfl
        rw [e1,eT hi (by omega)];refine(ih _ hok).to ?_;simp only [hc,ne_eq,not_true_eq_false,if_false]
    · refine Ev.cT (by rw [bne_iff_ne];exact hc) (Ev.some' ?_);simp only [ne_eq,hc,not_false_eq_true,if_true]
inductive Tm where
  |mk (x:Nd) (cs:List Tm)
namespace Tm
mutual
def size:Tm->Nat
  | .mk _ cs=>sizes cs+1
def sizes:List Tm->Nat
  |[]=>0
  |c::cs=>size c+sizes cs
end
def roots:Nat->List Tm->List Int
  |_,[]=>[]
  |b,c::cs=>((b+c.size -1:Nat):Int)::roots (b+c.size) cs
def nd (x:Nd) (b:Nat) (cs:List Tm):Nd:={x with args:=roots b cs}
mutual
def flat (b:Nat):Tm->List Nd
  | .mk x cs=>dS b cs++[nd x b cs]
def dS (b:Nat):List Tm->List Nd
  |[]=>[]
  |c::cs=>flat b c++dS (b+c.size) cs
end
theorem qX {b:Nat} {x:Nd} {cs:List Tm}:flat b (.mk x cs)=dS b cs++[nd x b cs]:=by rw [flat]
theorem lC {b:Nat} {c:Tm} {cs:List Tm}:dS b (c::cs)=flat b c++dS (b+c.size) cs:=by rw [dS]
def root:Tm->Nd| .mk x _=>x
def kids:Tm->List Tm| .mk _ cs=>cs
theorem size_pos: ∀t:Tm,0<t.size
  | .mk x cs=>by unfold size;omega
mutual
theorem ig (b:Nat): ∀t:Tm,(flat b t).length=t.size
  | .mk x cs=>by unfold flat size;rw [List.length_append,jv b cs];rfl
theorem jv (b:Nat): ∀cs:List Tm,(dS b cs).length=sizes cs
  |[]=>rfl
  |c::cs=>by unfold dS sizes;rw [List.length_append,ig b c,jv (b+c.size) cs]
end
theorem qd: ∀(b:Nat) (cs:List Tm),(roots b cs).length=cs.length
  |_,[]=>rfl
  |b,c::cs=>by unfold roots;rw [List.length_cons,List.length_cons,qd (b+c.size) cs]
theorem kU: ∀a b:List Tm,sizes (a++b)=sizes a+sizes b
  |[],b=>by simp [sizes]
  |c::a,b=>by simp only [List.cons_append,sizes,kU a b];omega
theorem BX: ∀(b:Nat) (l m:List Tm),dS b (l++m)=dS b l++dS (b+sizes l) m
  |b,[],m=>by simp [dS,sizes]
  |b,c::l,m=>by simp only [List.cons_append,dS,sizes,BX (b+c.size) l m,List.append_assoc,Nat.add_assoc]
theorem GX: ∀(b:Nat) (l m:List Tm),roots b (l++m)=roots b l++roots (b+sizes l) m
  |b,[],m=>by simp [roots,sizes]
  |b,c::l,m=>by simp only [List.cons_append,roots,sizes,GX (b+c.size) l m,Nat.add_assoc]
def Seg (e:List Nd) (b:Nat) (s:Tm):Prop:= ∃pre post,e=pre++(flat b s++post)/\pre.length=b
theorem Seg.whole (t:Tm):Seg (flat 0 t) 0 t:=⟨[],[],by simp,rfl⟩
theorem Seg.lt {e:List Nd} {b:Nat} {s:Tm} (h:Seg e b s):b+s.size<=e.length:=by
  obtain⟨pre,post,rfl,rfl⟩:=h;simp only [List.length_append,ig];omega
theorem Seg.node {e:List Nd} {b:Nat} {x:Nd} {cs:List Tm} (h:Seg e b (.mk x cs)):e[b+sizes cs]? =some (nd x b cs):=by
  obtain⟨pre,post,rfl,rfl⟩:=h;rw [List.getElem?_append_right (by omega),show pre.length+sizes cs -pre.length=sizes cs by omega];rw [qX,List.append_assoc,List.getElem?_append_right (by rw [jv];exact Nat.le_refl _),jv,Nat.sub_self];rfl
theorem Seg.kid {e:List Nd} {b:Nat} {x:Nd} {l m:List Tm} {c:Tm} (h:Seg e b (.mk x (l++c::m))):Seg e (b+sizes l) c:=by
  obtain⟨pre,post,rfl,rfl⟩:=h;refine⟨pre++dS pre.length l,dS (pre.length+sizes l+c.size) m++([nd x pre.length (l++c::m)]++post),?_,by rw [List.length_append,jv]⟩;rw [qX,BX,lC];simp only [List.append_assoc]
theorem Ob {b:Nat} {l m:List Tm} {c:Tm}:(roots b (l++c::m))[l.length]? =some (((b+sizes l+c.size -1:Nat):Int)):=by
  rw [GX,List.getElem?_append_right (by rw [qd];exact Nat.le_refl _),qd,Nat.sub_self];rfl
end Tm
end Go.VL
end
