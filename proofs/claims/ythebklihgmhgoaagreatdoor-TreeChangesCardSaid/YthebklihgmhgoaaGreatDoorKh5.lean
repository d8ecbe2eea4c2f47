/- Part 5. -/
import Derived.Test.YthebklihgmhgoaaGreatDoorKh4
import Derived.Shelf.Spec.SlicesGrow
import Derived.Shelf.Strings.Builder1
import Derived.Shelf.Strings.Builder2
import Derived.Shelf.Strings.OnBuilder
import Derived.Shelf.Small.Bits
import Derived.Shelf.Strings.Builder2Cap
import Derived.Shelf.Strconv.Itoa0
import Derived.Shelf.Strconv.Itoa1
import Derived.Shelf.LaysM
import Derived.Shelf.Strconv.Itoa2
import Derived.Shelf.Strconv.Itoa3
import Derived.Shelf.Strings.Search1
import Derived.Shelf.Strings.Search2
import Derived.Shelf.Strings.Cut
import Derived.Shelf.Strings.Shaped
import Derived.Shelf.Sort.Plain
import Derived.Shelf.GgClosure.StringsIndexFunc
import Derived.Ground.GgwProg
import Derived.Shelf.GgClosure.StringsIndexFuncTop
import Derived.Shelf.Strings.Prefix
import Derived.Shelf.Strings.Fields
import Derived.Shelf.Unicode.Latin
import Derived.Shelf.Bits.Mul64
import Derived.Shelf.Unicode.Is16White
import Derived.Shelf.Unicode.IsSpaceAny
import Derived.Shelf.Unicode.Is16WhiteD
import Derived.Shelf.Unicode.IsSpaceAnyD
import Derived.Shelf.Strings.FieldsAny
import Derived.Shelf.Strings.FieldsFuncAny
import Derived.Shelf.Unicode.Is16Any
import Derived.Shelf.Unicode.Is32Any
import Derived.Shelf.Unicode.ExclAny
import Derived.Shelf.Strings.FuncGrows
import Derived.Shelf.Slices.Equal
import Derived.Ground.Names2Prog
import Derived.Shelf.Slices.Clone
import Derived.Shelf.Slices.CompactS
import Derived.Shelf.Slices.Cells
import Derived.Shelf.Slices.In.SortNone
import Derived.Shelf.Slices.Empties2
import Derived.Test.YthebklihgmhgoaaGreatDoorProg
import Derived.KernelRfl
import Derived.Laws.RangeAny
import Derived.IntWalk
import Derived.Test.YthebklihgmhgoaaGreatDoorRows
import Derived.RangeFuncOwn
import Derived.TacticsIn
import Derived.TacticsInMore
import Derived.LoopIn
import Derived.Walk
import Derived.WalkKit
set_option maxRecDepth 8000
set_option linter.unusedVariables false
set_option linter.unusedSectionVars false
set_option linter.unusedSimpArgs false
section
namespace Go.Proofs
open Go.Shelf
def Tryz.lays156_ren:Go.Shelf.Ren:=⟨fun|156=>151|165=>191|166=>192|169=>193|240=>208|241=>209|276=>215|277=>216|n=>n,fun|31=>37|9=>9|3=>3|4=>4|0=>0|20=>20|72=>204|76=>208|70=>202|37=>141|75=>207|127=>220|164=>231|5=>5|80=>149|n=>n,fun|n=>n⟩
theorem Tryz.lays156:Go.Proofs.Lays.n156 Tryz.prog Tryz.lays156_ren:={
  mixed:=by kernel_rfl
  f156:=Tryz.func151.trans (congrArg some (by kernel_rfl))
  f165:=Tryz.func191.trans (congrArg some (by kernel_rfl))
  f166:=Tryz.func192.trans (congrArg some (by kernel_rfl))
  f169:=Tryz.func193.trans (congrArg some (by kernel_rfl))
  f240:=Tryz.func208.trans (congrArg some (by kernel_rfl))
  f241:=Tryz.func209.trans (congrArg some (by kernel_rfl))
  f276:=Tryz.func215.trans (congrArg some (by kernel_rfl))
  f277:=Tryz.func216.trans (congrArg some (by kernel_rfl))
  t0:=Tryz.underlying0
  a0:=Tryz.isAgg0
  z0:=Tryz.sizeOf0
  v0:=Tryz.zeroValue0
  t3:=Tryz.underlying3
  a3:=Tryz.isAgg3
  z3:=Tryz.sizeOf3
  v3:=Tryz.zeroValue3
  t4:=Tryz.underlying4
  a4:=Tryz.isAgg4
  z4:=Tryz.sizeOf4
  v4:=Tryz.zeroValue4
  t9:=Tryz.underlying9
  a9:=Tryz.isAgg9
  z9:=Tryz.sizeOf9
  v9:=Tryz.zeroValue9
  t20:=Tryz.underlying20
  a20:=Tryz.isAgg20
  z20:=Tryz.sizeOf20
  v20:=Tryz.zeroValue20
  t31:=Tryz.underlying37
  a31:=Tryz.isAgg37
  z31:=Tryz.sizeOf37
  v31:=Tryz.zeroValue37
  t37:=Tryz.underlying141
  a37:=Tryz.isAgg141
  z37:=Tryz.sizeOf141
  v37:=Tryz.zeroValue141
  t70:=Tryz.underlying202
  a70:=Tryz.isAgg202
  z70:=Tryz.sizeOf202
  v70:=Tryz.zeroValue202
  t72:=Tryz.underlying204
  a72:=Tryz.isAgg204
  z72:=Tryz.sizeOf204
  v72:=Tryz.zeroValue204
  t75:=Tryz.underlying207
  a75:=Tryz.isAgg207
  z75:=Tryz.sizeOf207
  v75:=Tryz.zeroValue207
  t76:=Tryz.underlying208
  a76:=Tryz.isAgg208
  z76:=Tryz.sizeOf208
  v76:=Tryz.zeroValue208
  t127:=Tryz.underlying220
  a127:=Tryz.isAgg220
  z127:=Tryz.sizeOf220
  v127:=Tryz.zeroValue220
  t164:=Tryz.underlying231
  a164:=Tryz.isAgg231
  z164:=Tryz.sizeOf231
  v164:=Tryz.zeroValue231}
theorem Tryz.Builder_Extra_156:Builder.Extra Tryz.prog Tryz.lays156_ren:={
  sizeBuilder:=by kernel_rfl
  liesBuilder:=by kernel_rfl
  t5:=Tryz.underlying5
  a5:=Tryz.isAgg5
  z5:=Tryz.sizeOf5
  v5:=Tryz.zeroValue5
  infoByte:=by kernel_rfl
  cellsByte:=by kernel_rfl
  sizeByte:=by kernel_rfl
  neB5:=by decide}
open Go.RowKit in
theorem Tryz.strings_Join_none (a:Option Addr) (c:Nat) (sep:ByteArray) (w:World):
    Calls Tryz.prog 151 #[.slice a 0 c,.string sep] w fun e w'=>e= .returned (.string ⟨#[]⟩)/\w'=w:=Any.strings_Join_none Tryz.lays156 Tryz.Builder_Extra_156 a c sep w
open Go.RowKit in
theorem Tryz.strings_Join (bk o c:Nat) (xs:List ByteArray) (sep:ByteArray) (w:World) (hcells: ∀(j:Nat) x,xs[j]? =some x->w.cell? ⟨bk,o+j,none⟩=some (.string x)) (hbk:bk<w.heap.size) (hN:xs.length<=140737488355328) (hcap:xs.length<=c) (hlen:(Lib.join (xs.map (·.data.toList)) sep.data.toList).length<=140737488355328):
    Calls Tryz.prog 151 #[.slice (some ⟨bk,o,none⟩) xs.length c,.string sep] w fun e w'=>e= .returned (.string ⟨(Lib.join (xs.map (·.data.toList)) sep.data.toList).toArray⟩)/\Below w.heap.size w w':=Any.strings_Join Tryz.lays156 Tryz.Builder_Extra_156 bk o c xs sep w hcells hbk hN hcap hlen
def Tryz.laysM246_ren:Go.Shelf.Ren:=⟨fun|246=>210|283=>217|284=>218|285=>219|286=>220|129=>178|317=>227|318=>228|319=>229|320=>230|337=>233|338=>234|n=>n,fun|2=>2|3=>3|9=>9|4=>4|171=>234|0=>0|53=>183|37=>141|5=>5|173=>236|212=>250|51=>181|20=>20|213=>251|46=>138|232=>255|233=>256|n=>n,fun|17=>3|18=>4|19=>5|n=>n⟩
def Tryz.laysM243_ren:Go.Shelf.Ren:=⟨fun|243=>194|246=>210|283=>217|284=>218|285=>219|286=>220|129=>178|317=>227|318=>228|319=>229|320=>230|337=>233|338=>234|n=>n,fun|3=>3|9=>9|2=>2|4=>4|171=>234|0=>0|53=>183|37=>141|5=>5|173=>236|212=>250|51=>181|20=>20|213=>251|46=>138|232=>255|233=>256|n=>n,fun|17=>3|18=>4|19=>5|n=>n⟩
def Tryz.laysM171_ren:Go.Shelf.Ren:=⟨fun|171=>152|243=>194|246=>210|283=>217|284=>218|285=>219|286=>220|129=>178|317=>227|318=>228|319=>229|320=>230|337=>233|338=>234|n=>n,fun|3=>3|9=>9|2=>2|4=>4|171=>234|0=>0|53=>183|37=>141|5=>5|173=>236|212=>250|51=>181|20=>20|213=>251|46=>138|232=>255|233=>256|n=>n,fun|17=>3|18=>4|19=>5|n=>n⟩
def Tryz.lays171_ren:Go.Shelf.Ren:=⟨fun|171=>152|243=>194|246=>210|283=>217|284=>218|285=>219|286=>220|129=>178|317=>227|318=>228|319=>229|320=>230|337=>233|338=>234|n=>n,fun|3=>3|9=>9|2=>2|4=>4|171=>234|0=>0|53=>183|37=>141|5=>5|173=>236|212=>250|51=>181|20=>20|213=>251|46=>138|232=>255|233=>256|n=>n,fun|17=>3|18=>4|19=>5|n=>n⟩
theorem Tryz.lays171:Go.Proofs.Lays.n171 Tryz.prog Tryz.lays171_ren:={
  mixed:=by kernel_rfl
  f129:=Tryz.func178.trans (congrArg some (by kernel_rfl))
  f171:=Tryz.func152.trans (congrArg some (by kernel_rfl))
  f243:=Tryz.func194.trans (congrArg some (by kernel_rfl))
  f246:=Tryz.func210.trans (congrArg some (by kernel_rfl))
  f283:=Tryz.func217.trans (congrArg some (by kernel_rfl))
  f284:=Tryz.func218.trans (congrArg some (by kernel_rfl))
  f285:=Tryz.func219.trans (congrArg some (by kernel_rfl))
  f286:=Tryz.func220.trans (congrArg some (by kernel_rfl))
  f317:=Tryz.func227.trans (congrArg some (by kernel_rfl))
  f318:=Tryz.func228.trans (congrArg some (by kernel_rfl))
  f319:=Tryz.func229.trans (congrArg some (by kernel_rfl))
  f320:=Tryz.func230.trans (congrArg some (by kernel_rfl))
  f337:=Tryz.func233.trans (congrArg some (by kernel_rfl))
  f338:=Tryz.func234.trans (congrArg some (by kernel_rfl))
  t0:=Tryz.underlying0
  a0:=Tryz.isAgg0
  z0:=Tryz.sizeOf0
  v0:=Tryz.zeroValue0
  t2:=Tryz.underlying2
  a2:=Tryz.isAgg2
  z2:=Tryz.sizeOf2
  v2:=Tryz.zeroValue2
  t3:=Tryz.underlying3
  a3:=Tryz.isAgg3
  z3:=Tryz.sizeOf3
  v3:=Tryz.zeroValue3
  t4:=Tryz.underlying4
  a4:=Tryz.isAgg4
  z4:=Tryz.sizeOf4
  v4:=Tryz.zeroValue4
  t5:=Tryz.underlying5
  a5:=Tryz.isAgg5
  z5:=Tryz.sizeOf5
  v5:=Tryz.zeroValue5
  t9:=Tryz.underlying9
  a9:=Tryz.isAgg9
  z9:=Tryz.sizeOf9
  v9:=Tryz.zeroValue9
  t20:=Tryz.underlying20
  a20:=Tryz.isAgg20
  z20:=Tryz.sizeOf20
  v20:=Tryz.zeroValue20
  t37:=Tryz.underlying141
  a37:=Tryz.isAgg141
  z37:=Tryz.sizeOf141
  v37:=Tryz.zeroValue141
  t46:=Tryz.underlying138
  a46:=Tryz.isAgg138
  z46:=Tryz.sizeOf138
  v46:=Tryz.zeroValue138
  t51:=Tryz.underlying181
  a51:=Tryz.isAgg181
  z51:=Tryz.sizeOf181
  v51:=Tryz.zeroValue181
  t53:=Tryz.underlying183
  a53:=Tryz.isAgg183
  z53:=Tryz.sizeOf183
  v53:=Tryz.zeroValue183
  t171:=Tryz.underlying234
  a171:=Tryz.isAgg234
  z171:=Tryz.sizeOf234
  v171:=Tryz.zeroValue234
  t173:=Tryz.underlying236
  a173:=Tryz.isAgg236
  z173:=Tryz.sizeOf236
  v173:=Tryz.zeroValue236
  t212:=Tryz.underlying250
  a212:=Tryz.isAgg250
  z212:=Tryz.sizeOf250
  v212:=Tryz.zeroValue250
  t213:=Tryz.underlying251
  a213:=Tryz.isAgg251
  z213:=Tryz.sizeOf251
  t232:=Tryz.underlying255
  a232:=Tryz.isAgg255
  z232:=Tryz.sizeOf255
  v232:=Tryz.zeroValue255
  t233:=Tryz.underlying256
  a233:=Tryz.isAgg256
  z233:=Tryz.sizeOf256
  v233:=Tryz.zeroValue256
  g17:=by kernel_rfl
  g18:=by kernel_rfl
  g19:=by kernel_rfl}
open Go.RowKit Go.Sort Go.Lib in
theorem Tryz.strconv_Itoa_small (i:Nat) (hi:i<100) (w:World):
    Calls Tryz.prog 152 #[.int .i64 i] w fun e w'=>e= .returned (.string ⟨(Lib.decDigits i).toArray⟩)/\w'=w:=Any.strconv_Itoa_small Tryz.lays171 i hi w
def Tryz.lays219_ren:Go.Shelf.Ren:=⟨fun|219=>214|217=>223|225=>224|224=>225|267=>226|266=>231|314=>232|n=>n,fun|9=>9|3=>3|4=>4|5=>5|46=>138|146=>197|51=>181|n=>n,fun|1=>2|n=>n⟩
theorem Tryz.lays219:Go.Proofs.Lays.n219 Tryz.prog Tryz.lays219_ren:={
  mixed:=by kernel_rfl
  f217:=Tryz.func223.trans (congrArg some (by kernel_rfl))
  f219:=Tryz.func214.trans (congrArg some (by kernel_rfl))
  f224:=Tryz.func225.trans (congrArg some (by kernel_rfl))
  f225:=Tryz.func224.trans (congrArg some (by kernel_rfl))
  f266:=Tryz.func231.trans (congrArg some (by kernel_rfl))
  f267:=Tryz.func226.trans (congrArg some (by kernel_rfl))
  f314:=Tryz.func232.trans (congrArg some (by kernel_rfl))
  t3:=Tryz.underlying3
  a3:=Tryz.isAgg3
  z3:=Tryz.sizeOf3
  v3:=Tryz.zeroValue3
  t4:=Tryz.underlying4
  a4:=Tryz.isAgg4
  z4:=Tryz.sizeOf4
  v4:=Tryz.zeroValue4
  t5:=Tryz.underlying5
  a5:=Tryz.isAgg5
  z5:=Tryz.sizeOf5
  v5:=Tryz.zeroValue5
  t9:=Tryz.underlying9
  a9:=Tryz.isAgg9
  z9:=Tryz.sizeOf9
  v9:=Tryz.zeroValue9
  t46:=Tryz.underlying138
  a46:=Tryz.isAgg138
  z46:=Tryz.sizeOf138
  v46:=Tryz.zeroValue138
  t51:=Tryz.underlying181
  a51:=Tryz.isAgg181
  z51:=Tryz.sizeOf181
  v51:=Tryz.zeroValue181
  t146:=Tryz.underlying197
  a146:=Tryz.isAgg197
  z146:=Tryz.sizeOf197
  v146:=Tryz.zeroValue197
  g1:=by kernel_rfl}
open Go.RowKit Go.Lib in
theorem Tryz.stringslite_Index_one (s:ByteArray) (c:UInt8) (w:World):
    Calls Tryz.prog 214 #[.string s,.string ⟨#[c]⟩] w fun e w'=>e= .returned (.int .i64 (Lib.indexByte s.data.toList c))/\w'=w:=Any.stringslite_Index_one Tryz.lays219 s c w
def Tryz.lays190_ren:Go.Shelf.Ren:=⟨fun|190=>66|125=>117|258=>116|128=>177|129=>178|302=>168|303=>169|304=>170|305=>171|306=>172|307=>173|308=>174|309=>175|310=>176|333=>197|329=>198|330=>199|334=>200|335=>201|336=>202|344=>212|n=>n,fun|31=>37|9=>9|3=>3|46=>138|0=>0|51=>181|53=>183|4=>4|183=>174|182=>173|131=>178|5=>5|218=>210|222=>214|228=>223|229=>30|n=>n,fun|n=>n⟩
theorem Tryz.lays190:Go.Proofs.Lays.n190 Tryz.prog Tryz.lays190_ren:={
  mixed:=by kernel_rfl
  f125:=Tryz.func117.trans (congrArg some (by kernel_rfl))
  f128:=Tryz.func177.trans (congrArg some (by kernel_rfl))
  f129:=Tryz.func178.trans (congrArg some (by kernel_rfl))
  f190:=Tryz.func66.trans (congrArg some (by kernel_rfl))
  f258:=Tryz.func116.trans (congrArg some (by kernel_rfl))
  f302:=Tryz.func168.trans (congrArg some (by kernel_rfl))
  f303:=Tryz.func169.trans (congrArg some (by kernel_rfl))
  f304:=Tryz.func170.trans (congrArg some (by kernel_rfl))
  f305:=Tryz.func171.trans (congrArg some (by kernel_rfl))
  f306:=Tryz.func172.trans (congrArg some (by kernel_rfl))
  f307:=Tryz.func173.trans (congrArg some (by kernel_rfl))
  f308:=Tryz.func174.trans (congrArg some (by kernel_rfl))
  f309:=Tryz.func175.trans (congrArg some (by kernel_rfl))
  f310:=Tryz.func176.trans (congrArg some (by kernel_rfl))
  f329:=Tryz.func198.trans (congrArg some (by kernel_rfl))
  f330:=Tryz.func199.trans (congrArg some (by kernel_rfl))
  f333:=Tryz.func197.trans (congrArg some (by kernel_rfl))
  f334:=Tryz.func200.trans (congrArg some (by kernel_rfl))
  f335:=Tryz.func201.trans (congrArg some (by kernel_rfl))
  f336:=Tryz.func202.trans (congrArg some (by kernel_rfl))
  f344:=Tryz.func212.trans (congrArg some (by kernel_rfl))
  t0:=Tryz.underlying0
  a0:=Tryz.isAgg0
  z0:=Tryz.sizeOf0
  v0:=Tryz.zeroValue0
  t3:=Tryz.underlying3
  a3:=Tryz.isAgg3
  z3:=Tryz.sizeOf3
  v3:=Tryz.zeroValue3
  t4:=Tryz.underlying4
  a4:=Tryz.isAgg4
  z4:=Tryz.sizeOf4
  v4:=Tryz.zeroValue4
  t5:=Tryz.underlying5
  a5:=Tryz.isAgg5
  z5:=Tryz.sizeOf5
  v5:=Tryz.zeroValue5
  t9:=Tryz.underlying9
  a9:=Tryz.isAgg9
  z9:=Tryz.sizeOf9
  v9:=Tryz.zeroValue9
  t31:=Tryz.underlying37
  a31:=Tryz.isAgg37
  z31:=Tryz.sizeOf37
  v31:=Tryz.zeroValue37
  t46:=Tryz.underlying138
  a46:=Tryz.isAgg138
  z46:=Tryz.sizeOf138
  v46:=Tryz.zeroValue138
  t51:=Tryz.underlying181
  a51:=Tryz.isAgg181
  z51:=Tryz.sizeOf181
  v51:=Tryz.zeroValue181
  t53:=Tryz.underlying183
  a53:=Tryz.isAgg183
  z53:=Tryz.sizeOf183
  v53:=Tryz.zeroValue183
  t131:=Tryz.underlying178
  a131:=Tryz.isAgg178
  z131:=Tryz.sizeOf178
  v131:=Tryz.zeroValue178
  t182:=Tryz.underlying173
  a182:=Tryz.isAgg173
  z182:=Tryz.sizeOf173
  v182:=Tryz.zeroValue173
  t183:=Tryz.underlying174
  a183:=Tryz.isAgg174
  z183:=Tryz.sizeOf174
  v183:=Tryz.zeroValue174
  t218:=Tryz.underlying210
  a218:=Tryz.isAgg210
  z218:=Tryz.sizeOf210
  v218:=Tryz.zeroValue210
  t222:=Tryz.underlying214
  a222:=Tryz.isAgg214
  z222:=Tryz.sizeOf214
  v222:=Tryz.zeroValue214
  t228:=Tryz.underlying223
  a228:=Tryz.isAgg223
  z228:=Tryz.sizeOf223
  v228:=Tryz.zeroValue223
  t229:=Tryz.underlying30
  a229:=Tryz.isAgg30
  z229:=Tryz.sizeOf30
  v229:=Tryz.zeroValue30}
open Go.Sort Go.RowKit in
theorem Tryz.slices_Sort_string (blk off cap:Nat) (ss:List (List UInt8)) (w:World) (hH:Holds encStr w blk off ss.toArray) (hblk:blk<w.heap.size) (hsz:ss.length<4611686018427387904):
    Calls Tryz.prog 66 #[.slice (some ⟨blk,off,none⟩) ss.length cap] w fun e w'=>
      e= .returned (.tuple #[])/\ ∃n os,w'=grow (putRow encStr (Sort.ahead w n) blk off (ss.mergeSort fun x y=>decide (x<=y)).toArray) os:=Any.slices_Sort_string Tryz.lays190 blk off cap ss w hH hblk hsz
def Tryz.laysGw17_ren:Go.Shelf.Ren:=⟨fun|17=>143|15=>185|20=>206|n=>n,fun|9=>9|23=>152|4=>4|3=>3|0=>0|21=>21|n=>n,fun|n=>n⟩
theorem Tryz.laysGw17:Go.Proofs.LaysGw.n17 Tryz.prog Tryz.laysGw17_ren:={
  mixed:=by kernel_rfl
  f15:=Tryz.func185.trans (congrArg some (by kernel_rfl))
  f17:=Tryz.func143.trans (congrArg some (by kernel_rfl))
  f20:=Tryz.func206.trans (congrArg some (by kernel_rfl))
  t0:=Tryz.underlying0
  a0:=Tryz.isAgg0
  z0:=Tryz.sizeOf0
  v0:=Tryz.zeroValue0
  i0:=by kernel_rfl
  t3:=Tryz.underlying3
  a3:=Tryz.isAgg3
  z3:=Tryz.sizeOf3
  v3:=Tryz.zeroValue3
  i3:=by kernel_rfl
  t4:=Tryz.underlying4
  a4:=Tryz.isAgg4
  z4:=Tryz.sizeOf4
  v4:=Tryz.zeroValue4
  i4:=by kernel_rfl
  t9:=Tryz.underlying9
  a9:=Tryz.isAgg9
  z9:=Tryz.sizeOf9
  v9:=Tryz.zeroValue9
  i9:=by kernel_rfl
  t21:=Tryz.underlying21
  a21:=Tryz.isAgg21
  z21:=Tryz.sizeOf21
  v21:=Tryz.zeroValue21
  i21:=by kernel_rfl
  t23:=Tryz.underlying152
  a23:=Tryz.isAgg152
  z23:=Tryz.sizeOf152
  v23:=Tryz.zeroValue152
  i23:=by kernel_rfl}
def Tryz.lays264_ren:Go.Shelf.Ren:=⟨fun|264=>189|n=>n,fun|53=>183|46=>138|n=>n,fun|n=>n⟩
theorem Tryz.lays264:Go.Proofs.Lays.n264 Tryz.prog Tryz.lays264_ren:={
  mixed:=by kernel_rfl
  f264:=Tryz.func189.trans (congrArg some (by kernel_rfl))
  t46:=Tryz.underlying138
  a46:=Tryz.isAgg138
  z46:=Tryz.sizeOf138
  v46:=Tryz.zeroValue138
  t53:=Tryz.underlying183
  a53:=Tryz.isAgg183
  z53:=Tryz.sizeOf183
  v53:=Tryz.zeroValue183}
open Go.RowKit Go.Lib in
theorem Tryz.bits_Mul64 (x y:Nat) (hx:x<18446744073709551616) (hy:y<18446744073709551616) (w:World):
    Calls Tryz.prog 189 #[.int .u64 x,.int .u64 y] w fun e w'=>e= .returned (.tuple #[.int .u64 ((x*y/18446744073709551616:Nat):Int),.int .u64 ((x*y% 18446744073709551616:Nat):Int)])/\w'=w:=Any.bits_Mul64 Tryz.lays264 x y hx hy w
open Go.RowKit Go.Lib in
theorem Tryz.strings_ContainsFunc_grows (g:Nat) (lb:Array Value) (eg: ∀args w,(callFunc g args).run Tryz.prog w= .ok (.enter g args) w) (p:Nat->Bool) (s:ByteArray) (w:World) (hp:PredGrows Tryz.prog g lb p w):
    Calls Tryz.prog 143 #[.string s,.func (.func g) #[] lb] w fun e w'=>e= .returned (.bool (decide (0<=Lib.idxFunc p true s)))/\Below w.heap.size w w':=Any.strings_ContainsFunc_grows Tryz.laysGw17 g lb eg p s w hp
def Tryz.laysNm215_ren:Go.Shelf.Ren:=⟨fun|15=>128|n=>n,fun|22=>38|3=>3|4=>4|n=>n,fun|n=>n⟩
theorem Tryz.laysNm215:Go.Proofs.Lays2.n15 Tryz.prog Tryz.laysNm215_ren:={
  mixed:=by kernel_rfl
  f15:=Tryz.func128.trans (congrArg some (by kernel_rfl))
  t3:=Tryz.underlying3
  a3:=Tryz.isAgg3
  z3:=Tryz.sizeOf3
  v3:=Tryz.zeroValue3
  t4:=Tryz.underlying4
  a4:=Tryz.isAgg4
  z4:=Tryz.sizeOf4
  v4:=Tryz.zeroValue4
  t22:=Tryz.underlying38
  a22:=Tryz.isAgg38
  z22:=Tryz.sizeOf38
  v22:=Tryz.zeroValue38
  i3:=by kernel_rfl}
open Go.RowKit Go.Lib in
theorem Tryz.slices_Clone_int (b off n c:Nat) (zs:List Int) (w:World) (hz:n<=zs.length) (hbig:n*8<=140737488355328) (hc: ∀j,j<zs.length->w.cell? ⟨b,off+j,none⟩=some (.int .i64 (zs.getD j 0))):
    Calls Tryz.prog 128 #[.slice (some ⟨b,off,none⟩) n c] w fun e w'=> ∃v',e= .returned v'/\w'.ownsRow w.heap.size 3 1 v' n ((zs.take n).map (Value.int .i64))/\v'≠ .slice none 0 0/\Below w.heap.size w w':=Any.slices_Clone_int Tryz.laysNm215 b off n c zs w hz hbig hc
open Go.RowKit Go.Lib in
theorem Tryz.slices_Clone_int_nil (n c:Nat) (w:World):
    Calls Tryz.prog 128 #[.slice none n c] w fun e w'=>e= .returned (.slice none 0 0)/\w'=w:=Any.slices_Clone_int_nil Tryz.laysNm215 n c w
def Tryz.laysNm216_ren:Go.Shelf.Ren:=⟨fun|16=>72|n=>n,fun|24=>37|9=>9|4=>4|n=>n,fun|n=>n⟩
theorem Tryz.laysNm216:Go.Proofs.Lays2.n16 Tryz.prog Tryz.laysNm216_ren:={
  mixed:=by kernel_rfl
  f16:=Tryz.func72.trans (congrArg some (by kernel_rfl))
  t4:=Tryz.underlying4
  a4:=Tryz.isAgg4
  z4:=Tryz.sizeOf4
  v4:=Tryz.zeroValue4
  t9:=Tryz.underlying9
  a9:=Tryz.isAgg9
  z9:=Tryz.sizeOf9
  v9:=Tryz.zeroValue9
  t24:=Tryz.underlying37
  a24:=Tryz.isAgg37
  z24:=Tryz.sizeOf37
  v24:=Tryz.zeroValue37
  i9:=by kernel_rfl}
open Go.RowKit Go.Lib in
theorem Tryz.slices_Clone_string (b off n c:Nat) (zs:List ByteArray) (w:World) (hz:n<=zs.length) (hbig:n*16<=140737488355328) (hc: ∀j,j<zs.length->w.cell? ⟨b,off+j,none⟩=some (.string (zs.getD j ByteArray.empty))):
    Calls Tryz.prog 72 #[.slice (some ⟨b,off,none⟩) n c] w fun e w'=> ∃v',e= .returned v'/\w'.ownsRow w.heap.size 9 1 v' n ((zs.take n).map (Value.string))/\v'≠ .slice none 0 0/\Below w.heap.size w w':=Any.slices_Clone_string Tryz.laysNm216 b off n c zs w hz hbig hc
open Go.RowKit Go.Lib in
theorem Tryz.slices_Clone_string_nil (n c:Nat) (w:World):
    Calls Tryz.prog 72 #[.slice none n c] w fun e w'=>e= .returned (.slice none 0 0)/\w'=w:=Any.slices_Clone_string_nil Tryz.laysNm216 n c w
open Go.RowKit Go.Lib in
theorem Tryz.slices_Clone_int_zero (a:Addr) (c:Nat) (w:World):
    Calls Tryz.prog 128 #[.slice (some a) 0 c] w fun e w'=> ∃v',e= .returned v'/\w'.ownsRow w.heap.size 3 1 v' 0 []/\v'≠ .slice none 0 0/\Below w.heap.size w w':=Any.slices_Clone_int_zero Tryz.laysNm215 a c w
open Go.RowKit Go.Lib in
theorem Tryz.slices_Clone_string_zero (a:Addr) (c:Nat) (w:World):
    Calls Tryz.prog 72 #[.slice (some a) 0 c] w fun e w'=> ∃v',e= .returned v'/\w'.ownsRow w.heap.size 9 1 v' 0 []/\v'≠ .slice none 0 0/\Below w.heap.size w w':=Any.slices_Clone_string_zero Tryz.laysNm216 a c w
def Tryz.lays194_ren:Go.Shelf.Ren:=⟨fun|194=>119|n=>n,fun|31=>37|9=>9|3=>3|4=>4|0=>0|n=>n,fun|n=>n⟩
theorem Tryz.lays194:Go.Proofs.Lays.n194 Tryz.prog Tryz.lays194_ren:={
  mixed:=by kernel_rfl
  f194:=Tryz.func119.trans (congrArg some (by kernel_rfl))
  t0:=Tryz.underlying0
  a0:=Tryz.isAgg0
  z0:=Tryz.sizeOf0
  v0:=Tryz.zeroValue0
  t3:=Tryz.underlying3
  a3:=Tryz.isAgg3
  z3:=Tryz.sizeOf3
  v3:=Tryz.zeroValue3
  t4:=Tryz.underlying4
  a4:=Tryz.isAgg4
  z4:=Tryz.sizeOf4
  v4:=Tryz.zeroValue4
  t9:=Tryz.underlying9
  a9:=Tryz.isAgg9
  z9:=Tryz.sizeOf9
  v9:=Tryz.zeroValue9
  t31:=Tryz.underlying37
  a31:=Tryz.isAgg37
  z31:=Tryz.sizeOf37
  v31:=Tryz.zeroValue37}
open Go.RowKit Go.Lib Go.Sort in
theorem Tryz.slices_Compact_string (blk off cap:Nat) (zs:List (List UInt8)) (w:World) (hH:Holds encStr w blk off zs.toArray) (hsz:zs.length<=9223372036854775807) (hcap:zs.length<=cap):
    Calls Tryz.prog 119 #[.slice (some ⟨blk,off,none⟩) zs.length cap] w fun e w'=>e= .returned (.slice (some ⟨blk,off,none⟩) (Lib.compact zs).length cap)/\ ∃q,w'=putRow encStr (Sort.ahead w q) blk off (Lib.compact zs++List.replicate (zs.length -(Lib.compact zs).length) []).toArray:=Any.slices_Compact_string Tryz.lays194 blk off cap zs w hH hsz hcap
open Go.RowKit Go.Lib Go.Sort in
theorem Tryz.slices_Compact_string_empty (a:Option Addr) (cap:Nat) (w:World):
    Calls Tryz.prog 119 #[.slice a 0 cap] w fun e w'=>e= .returned (.slice a 0 cap)/\w'=w:=Any.slices_Compact_string_empty Tryz.lays194 a cap w
open Go.RowKit Go.Sort in
theorem Tryz.slices_Sort_string_none (p:Option Addr) (cap:Nat) (w:World):
    Calls Tryz.prog 66 #[.slice p 0 cap] w fun e w'=>e= .returned (.tuple #[])/\w'=w:=Any.slices_Sort_string_none Tryz.lays190 p cap w
def Tryz.growOp_ren:Go.Shelf.Ren:=⟨fun|4=>167|n=>n,fun|22=>93|25=>46|3=>3|4=>4|9=>9|20=>20|0=>0|n=>n,fun|n=>n⟩
theorem Tryz.growOp:Go.Proofs.Lays8.n4 Tryz.prog Tryz.growOp_ren:={
  mixed:=by kernel_rfl
  f4:=⟨Tryz.f167.name,by decide,Tryz.func167.trans (congrArg some (by kernel_rfl))⟩
  t0:=Tryz.underlying0
  a0:=Tryz.isAgg0
  z0:=Tryz.sizeOf0
  v0:=Tryz.zeroValue0
  t3:=Tryz.underlying3
  a3:=Tryz.isAgg3
  z3:=Tryz.sizeOf3
  v3:=Tryz.zeroValue3
  t4:=Tryz.underlying4
  a4:=Tryz.isAgg4
  z4:=Tryz.sizeOf4
  v4:=Tryz.zeroValue4
  t9:=Tryz.underlying9
  a9:=Tryz.isAgg9
  z9:=Tryz.sizeOf9
  v9:=Tryz.zeroValue9
  t20:=Tryz.underlying20
  a20:=Tryz.isAgg20
  z20:=Tryz.sizeOf20
  v20:=Tryz.zeroValue20
  t22:=Tryz.underlying93
  a22:=Tryz.isAgg93
  z22:=Tryz.sizeOf93
  v22:=Tryz.zeroValue93}
end Go.Proofs
end
section
namespace Go.VL
open Go.Proofs Go.RowKit
theorem amI (l:List Str) (sep:Str) {c:Ck} (h1:l.length<=1099511627776) (h2:(Lib.join l sep).length<=140737488355328):aF Tryz.prog 151 [.aB (l.map aX) c,.str sep] (.str (Lib.join l sep)):=by
  refine aF.wk (args:=[.aB (l.map aX) .unk,.str sep]) ?_ (.aB (.same .nil));refine IL ⟨_,Tryz.func151,rfl,by kernel_rfl⟩ (fun w G vs hg hi hv=> ?_) (bg.mem (.cons (aU bN _) (.cons (.str _) .nil)));obtain⟨ad,cap,hc,rfl,hcells⟩:=Vs.aji hi hv;by_cases h0:l=[]
  · subst h0;refine(Tryz.strings_Join_none ad cap ⟨sep.toArray⟩ w).mono ?_;rintro e w' ⟨rfl,rfl⟩;exact⟨_,rfl,Below.refl _ _,fun G n=> .str _⟩
  · obtain⟨b,o,rfl,hb,hx⟩:=hcells h0
    have e1:(l.map fun s=>(⟨s.toArray⟩:ByteArray)).map (·.data.toList)=l:=by simp [Function.comp_def]
    have key:=Tryz.strings_Join b o cap (l.map fun s=>⟨s.toArray⟩) ⟨sep.toArray⟩ w hx hb (by simp;omega) (by simp;exact hc) (by rw [e1];exact h2);rw [e1,List.length_map]at key;refine key.mono ?_;rintro e w' ⟨rfl,hb'⟩;exact⟨_,rfl,hb',fun G n=> .str _⟩
theorem Yo (n:Int) (h:0<=n/\n<100):aF Tryz.prog 152 [.int .i64 n] (.str (Lib.decDigits n.toNat)):=by
  refine IL ⟨_,Tryz.func152,rfl,by kernel_rfl⟩ (fun w G vs hg hi hv=> ?_) (bg.mem (.cons (.int _ _) .nil));rw [Vs.asF hv];have e1:n=((n.toNat:Nat):Int):=by omega
  have key:=Tryz.strconv_Itoa_small n.toNat (by omega) w;rw [<-e1]at key;refine key.mono ?_;rintro e w' ⟨rfl,rfl⟩;exact⟨_,rfl,Below.refl _ _,fun G n=> .str _⟩
theorem Z8 (s:Str) (c:UInt8):aF Tryz.prog 214 [.str s,.str [c]] (.int .i64 (Lib.indexByte s c)):=by
  refine IL ⟨_,Tryz.func214,rfl,by kernel_rfl⟩ (fun w G vs hg hi hv=> ?_) (bg.mem (.cons (.str _) (.cons (.str _) .nil)));rw [Vs.str2 hv];refine(Tryz.stringslite_Index_one ⟨s.toArray⟩ c w).mono ?_;rintro e w' ⟨rfl,rfl⟩;exact⟨_,rfl,Below.refl _ _,fun G n=> .int _ _⟩
def afR (s sep:Str):Option Int:=match sep with
  |[c]=>some (Lib.indexByte s c)
  |_=>none
theorem amJ (s sep:Str) {r:Int} (h:afR s sep=some r):aF Tryz.prog 214 [.str s,.str sep] (.int .i64 r):=by
  match sep,h with
  |[c],h=>cases h;exact Z8 s c
def Yp (s:Str):Option (List Str):=none
theorem acd (s:Str) {r:List Str} (h:Yp s=some r):aF Tryz.prog 203 [.str s,.fn (.func 204) [] []] (.aB (r.map aX) .unk):=by cases h
end Go.VL
end
section
set_option maxHeartbeats 4000000
namespace Go.VL
open Go.Proofs
def xA:Nat->Str->Int->Int->Int->Int->Option ((Int×Int))
  |0,_,_,_,_,_=>none
  |k+1,s_0,UO,sj,rE,kD=>
    cond (decide (kD<(s_0.length:Int))) (if 0<=kD then Option.bind (s_0[kD.toNat]?) fun x3=>if 0<=(x3.toNat:Int)/\(x3.toNat:Int)<256 then Option.bind (y7[x3.toNat]?) fun x6=>xA k s_0 (IntKind.wrap .i64 (UO+(IntKind.wrap .i64 ((BitVec.ofInt (IntKind.bits .i64) sj&&&BitVec.ofInt (IntKind.bits .i64) (IntKind.wrap .i64 ((BitVec.ofInt (IntKind.bits .i64) (if IntKind.signed .i64=true then -1 else IntKind.max .i64)^^^BitVec.ofInt (IntKind.bits .i64) (IntKind.wrap .i64 x6)).toNat))).toNat)))) (IntKind.wrap .i64 x6) (IntKind.wrap .u8 ((BitVec.ofInt (IntKind.bits .u8) rE|||BitVec.ofInt (IntKind.bits .u8) (x3.toNat:Int)).toNat)) (IntKind.wrap .i64 (kD+1))else none else none) (some ((UO,rE)))
def KD:List Nat:=[3,4,5,6,7,8]++List.range' 13 23
theorem VD: ∀(k:Nat) (s_0:Str) (UO:Int) (sj:Int) (rE:Int) (kD:Int) (aC σ:Nat->PV) (H:AH) (f0:Fr KD aC σ) (sl:σ 0=(.str s_0)/\σ 3=(.int .i64 UO)/\σ 4=(.int .i64 sj)/\σ 5=(.int .u8 rE)/\σ 6=(.int .i64 kD)) (o:(Int×Int)) (h:xA k s_0 UO sj rE kD=some o) (Q:Post) (q0: ∀(p:Int×Int) (σ':Nat->PV),o=p->Fr KD aC σ'->(σ' 3=(.int .i64 p.1)/\σ' 5=(.int .u8 p.2))->Q (.exit 0) σ' H),W Tryz.prog (.loop NT) Q σ H:=by
  intro k
  induction k with
  |zero=>intro s_0 UO sj rE kD aC σ H f0 sl o h Q q0;simp only [xA,reduceCtorEq]at h
  |succ k ih=>
    intro s_0 UO sj rE kD aC σ H f0 sl o h Q q0;obtain⟨s0,s3,s4,s5,s6⟩:=sl;unfold xA at h;refine aV (fun K hK=>aD ?_);unfold NT;rcases av h with⟨e1,h⟩|⟨e1,h⟩
    ·obtain⟨e2,h⟩:=aO h;obtain⟨x3,e4,h⟩:=aj h;obtain⟨e5,h⟩:=aO h;obtain⟨x6,e7,h⟩:=aj h;try refine bK ?_
     refine hK _ _ ?_;exact ih s_0 (IntKind.wrap .i64 (UO+(IntKind.wrap .i64 ((BitVec.ofInt (IntKind.bits .i64) sj&&&BitVec.ofInt (IntKind.bits .i64) (IntKind.wrap .i64 ((BitVec.ofInt (IntKind.bits .i64) (if IntKind.signed .i64=true then -1 else IntKind.max .i64)^^^BitVec.ofInt (IntKind.bits .i64) (IntKind.wrap .i64 x6)).toNat))).toNat)))) (IntKind.wrap .i64 x6) (IntKind.wrap .u8 ((BitVec.ofInt (IntKind.bits .u8) rE|||BitVec.ofInt (IntKind.bits .u8) (x3.toNat:Int)).toNat)) (IntKind.wrap .i64 (kD+1)) _ _ _ aN aZ _ h _ q0
    ·obtain rfl:=ak h;try refine bK ?_
     exact q0 _ _ rfl aN aZ
def xB:Nat->Str->Int->Option Int
  |0,_,_=>none
  |k+1,s_0,gI=>
    cond (decide (gI<(s_0.length:Int))) (if 0<=gI then Option.bind (s_0[gI.toNat]?) fun x30=>if 0<=(x30.toNat:Int)/\(x30.toNat:Int)<256 then Option.bind (y7[x30.toNat]?) fun x33=>cond (x33 !=0) (xB k s_0 (IntKind.wrap .i64 (gI+1))) (some (gI))else none else none) (some (gI))
def KE:List Nat:=[12]++List.range' 42 14
theorem VE: ∀(k:Nat) (s_0:Str) (gI:Int) (aC σ:Nat->PV) (H:AH) (f0:Fr KE aC σ) (sl:σ 0=(.str s_0)/\σ 12=(.int .i64 gI)) (o:Int) (h:xB k s_0 gI=some o) (Q:Post) (q0: ∀(p:Int) (σ':Nat->PV),o=p->Fr KE aC σ'->(σ' 12=(.int .i64 p))->Q (.exit 2) σ' H),W Tryz.prog (.loop NU) Q σ H:=by
  intro k
  induction k with
  |zero=>intro s_0 gI aC σ H f0 sl o h Q q0;simp only [xB,reduceCtorEq]at h
  |succ k ih=>
    intro s_0 gI aC σ H f0 sl o h Q q0;obtain⟨s0,s12⟩:=sl;unfold xB at h;refine aV (fun K hK=>aD ?_);unfold NU;rcases av h with⟨e28,h⟩|⟨e28,h⟩
    ·obtain⟨e29,h⟩:=aO h;obtain⟨x30,e31,h⟩:=aj h;obtain⟨e32,h⟩:=aO h;obtain⟨x33,e34,h⟩:=aj h;rcases av h with⟨e35,h⟩|⟨e35,h⟩
     ·try refine bK ?_
      refine hK _ _ ?_;exact ih s_0 (IntKind.wrap .i64 (gI+1)) _ _ _ aN aZ _ h _ q0
     ·obtain rfl:=ak h;try refine bK ?_
      exact q0 _ _ rfl aN aZ
    ·obtain rfl:=ak h;try refine bK ?_
     exact q0 _ _ rfl aN aZ
def xC:Nat->Str->Int->Option Int
  |0,_,_=>none
  |k+1,s_0,gI=>
    cond (decide (gI<(s_0.length:Int))) (if 0<=gI then Option.bind (s_0[gI.toNat]?) fun UQ=>if 0<=(UQ.toNat:Int)/\(UQ.toNat:Int)<256 then Option.bind (y7[UQ.toNat]?) fun x76=>cond (x76 !=0) (xC k s_0 (IntKind.wrap .i64 (gI+1))) (some (gI))else none else none) (some (gI))
def KF:List Nat:=[12]++List.range' 80 14
theorem VF: ∀(k:Nat) (s_0:Str) (gI:Int) (aC σ:Nat->PV) (H:AH) (f0:Fr KF aC σ) (sl:σ 0=(.str s_0)/\σ 12=(.int .i64 gI)) (o:Int) (h:xC k s_0 gI=some o) (Q:Post) (q0: ∀(p:Int) (σ':Nat->PV),o=p->Fr KF aC σ'->(σ' 12=(.int .i64 p))->Q (.exit 6) σ' H),W Tryz.prog (.loop NV) Q σ H:=by
  intro k
  induction k with
  |zero=>intro s_0 gI aC σ H f0 sl o h Q q0;simp only [xC,reduceCtorEq]at h
  |succ k ih=>
    intro s_0 gI aC σ H f0 sl o h Q q0;obtain⟨s0,s12⟩:=sl;unfold xC at h;refine aV (fun K hK=>aD ?_);unfold NV;rcases av h with⟨e71,h⟩|⟨e71,h⟩
    ·obtain⟨e72,h⟩:=aO h;obtain⟨UQ,e74,h⟩:=aj h;obtain⟨Kk,h⟩:=aO h;obtain⟨x76,ML,h⟩:=aj h;rcases av h with⟨XI,h⟩|⟨XI,h⟩
     ·try refine bK ?_
      refine hK _ _ ?_;exact ih s_0 (IntKind.wrap .i64 (gI+1)) _ _ _ aN aZ _ h _ q0
     ·obtain rfl:=ak h;try refine bK ?_
      exact q0 _ _ rfl aN aZ
    ·obtain rfl:=ak h;try refine bK ?_
     exact q0 _ _ rfl aN aZ
def tT:Nat->Str->(List Str)->Int->Int->Int->Option (((List Str)×Int×Int))
  |0,_,_,_,_,_=>none
  |k+1,s_0,KG,lX,fI,gI=>
    cond (decide (gI<(s_0.length:Int))) (if 0<=gI then Option.bind (s_0[gI.toNat]?) fun x48=>if 0<=(x48.toNat:Int)/\(x48.toNat:Int)<256 then Option.bind (y7[x48.toNat]?) fun x51=>cond (x51==0) (tT k s_0 KG lX fI (IntKind.wrap .i64 (gI+1))) (if 0<=fI/\fI<=gI/\gI.toNat<=s_0.length then if 0<=lX then Option.bind (KG[lX.toNat]?) fun x56=>Option.bind (xC k s_0 (IntKind.wrap .i64 (gI+1))) (fun UH=>tT k s_0 (KG.set lX.toNat ((s_0.take gI.toNat).drop fI.toNat)) (IntKind.wrap .i64 (lX+1)) UH UH)else none else none)else none else none) (some ((KG,lX,fI)))
def KH:List Nat:=[10,11,12]++List.range' 57 38
theorem VG: ∀(k:Nat) (Di:PV) (Ba:List Nat) (M:List Nat) (s_0:Str) (KG:List Str) (lX:Int) (fI:Int) (gI:Int) (aC σ:Nat->PV) (H0 H:AH) (f0:Fr KH aC σ) (hf0:HF M H0 H) (sl:σ 0=(.str s_0)/\σ 9=Di/\σ 10=(.int .i64 lX)/\σ 11=(.int .i64 fI)/\σ 12=(.int .i64 gI)) (Dk:aK H aX 1 KG Di Ba) (G9:Nw H0 M Ba) (o:((List Str)×Int×Int)) (h:tT k s_0 KG lX fI gI=some o) (Q:Post) (q0: ∀(p:(List Str)×Int×Int) (v0:PV) (oQ:List Nat) (σ':Nat->PV) (H':AH),o=p->Fr KH aC σ'->HF M H0 H'->(σ' 9=v0/\σ' 10=(.int .i64 p.2.1)/\σ' 11=(.int .i64 p.2.2))->aK H' aX 1 p.1 v0 oQ->Nw H0 M oQ->Q (.exit 4) σ' H'),W Tryz.prog (.loop NW) Q σ H:=by
  intro k
  induction k with
  |zero=>intro Di Ba M s_0 KG lX fI gI aC σ H0 H f0 hf0 sl Dk G9 o h Q q0;simp only [tT,reduceCtorEq]at h
  |succ k ih=>
    intro Di Ba M s_0 KG lX fI gI aC σ H0 H f0 hf0 sl Dk G9 o h Q q0;obtain⟨s0,s9,s10,s11,s12⟩:=sl;have hle0:=hf0.1;unfold tT at h;refine aV (fun K hK=>aD ?_);unfold NW;rcases av h with⟨e46,h⟩|⟨e46,h⟩
    ·obtain⟨e47,h⟩:=aO h;obtain⟨x48,e49,h⟩:=aj h;obtain⟨e50,h⟩:=aO h;obtain⟨x51,e52,h⟩:=aj h;rcases av h with⟨e53,h⟩|⟨e53,h⟩
     ·try refine bK ?_
      refine hK _ _ ?_;exact ih Di Ba M s_0 KG lX fI (IntKind.wrap .i64 (gI+1)) _ _ _ _ aN (by repeat (first|exact hf0|refine HF.new ?_|refine HF.eG ?_|refine HF.used ?_|refine HF.put (by first|(right;omega)|(left;simp only [List.mem_cons,true_or,or_true])) ?_)) aZ (by repeat (first|exact Dk|apply aK.new|refine aK.put ?_ (fun hm=>by have:=aK.lt Dk _ hm;omega))) G9 _ h _ q0
     ·obtain⟨e54,h⟩:=aO h;obtain⟨e55,h⟩:=aO h;obtain⟨x56,e57,h⟩:=aj h;obtain⟨w58,w59,amL,hil,w60,hC,hL,hD,hI⟩:=aK.content Dk e57;have w61:=ne_next hil;have w62:=aS hil;have w63:jG 1 Di (.int .i64 lX)=some (.ref w58 (lX.toNat)):=by simpa using hI .i64 lX (by first|omega|decide) (by first|rfl|omega)
      have av7:w59[lX.toNat]? =some (.str x56):=by simpa using hC 0 _ rfl
      clear hC hL hD hI;try refine bK ?_
      refine nK (f:=aX) (id:=w58) (o:=lX.toNat) (i:=lX.toNat) (j:=0) (a:=x56) (y:=((s_0.take gI.toNat).drop fI.toNat)) (vs:=[(.str ((s_0.take gI.toNat).drop fI.toNat))]) aZ amL (by omega) (by repeat (first|exact Dk|apply aK.new|refine aK.put ?_ (fun hm=>by have:=aK.lt Dk _ hm;omega))) e57 aZ rfl rfl (by first|decide|(simp only [List.length_cons,List.length_nil];omega)) rfl (fun H66 r67 amM afA=> ?_);have le:=amM.1;try simp only [AH.aI,AH.aJ,AH.aL,AH.aM]at le
      try refine bK ?_
      obtain⟨o79,h80,h⟩:=aj h;refine VF k s_0 (IntKind.wrap .i64 (gI+1)) _ _ _ (Fr.refl _ _) aZ _ h80 _ ?_
      ·rintro UH σ' eo Tp s85;rw [eo]at h;have s86:σ' 0=(.str s_0):=(Tp 0 (by decide)).trans aZ;have s87:σ' 9=Di:=(Tp 9 (by decide)).trans aZ;have s88:σ' 10=(.int .i64 (IntKind.wrap .i64 (lX+1))):=(Tp 10 (by decide)).trans aZ;try refine bK ?_
       refine hK _ _ ?_;exact ih Di Ba M s_0 (KG.set lX.toNat ((s_0.take gI.toNat).drop fI.toNat)) (IntKind.wrap .i64 (lX+1)) UH UH _ _ _ _ (by repeat (first|exact f0|refine Fr.upd (by decide) ?_|refine Fr.via Tp (by decide) ?_)) (by repeat (first|exact hf0|refine HF.new ?_|refine HF.eG ?_|refine HF.used ?_|refine HF.put (by first|(right;omega)|(left;simp only [List.mem_cons,true_or,or_true])) ?_|refine HF.via amM G9 ?_)) aZ (by repeat (first|exact r67|apply aK.new|refine aK.put ?_ (fun hm=>by have:=aK.lt r67 _ hm;omega))) G9 _ h _ q0
    ·obtain rfl:=ak h;try refine bK ?_
     exact q0 _ Di Ba _ _ rfl aN (by repeat (first|exact hf0|refine HF.new ?_|refine HF.eG ?_|refine HF.used ?_|refine HF.put (by first|(right;omega)|(left;simp only [List.mem_cons,true_or,or_true])) ?_)) aZ (by repeat (first|exact Dk|apply aK.new|refine aK.put ?_ (fun hm=>by have:=aK.lt Dk _ hm;omega))) G9
def Oh (k:Nat) (s_0:Str):Option (List Str):=
  Option.bind (xA k s_0 0 1 0 0) (fun gT=>cond (decide (gT.2>=128)) (Option.bind (Yp s_0) fun uz=>some uz) (if 0<=gT.1/\gT.1<=1099511627776/\16*gT.1<=1099511627776 then Option.bind (xB k s_0 0) (fun p38=>Option.bind (tT k s_0 (List.replicate gT.1.toNat []) 0 p38 p38) (fun kN=>cond (decide (kN.2.2<(s_0.length:Int))) (if 0<=kN.2.2/\kN.2.2.toNat<=s_0.length then if 0<=kN.2.1 then Option.bind (kN.1[kN.2.1.toNat]?) fun afS=>some (kN.1.set kN.2.1.toNat (s_0.drop kN.2.2.toNat))else none else none) (some kN.1)))else none))
theorem ace {k:Nat} {s_0:Str} {r:List Str} (h:Oh k s_0=some r):aF Tryz.prog 180 [(.str s_0)] (.aB (r.map aX) .unk):=by
  refine aF.aP (bg.mem (.cons (.str _) .nil)) (aH apb (by simp) (aD ?_)) (aU bN _);unfold Oh at h;unfold ahI;try refine bK ?_
  obtain⟨o8,h9,h⟩:=aj h;refine VD k s_0 0 1 0 0 _ _ _ (Fr.refl _ _) aZ _ h9 _ ?_
  ·rintro gT σ' eo Iz ⟨MN,s15⟩;rw [eo]at h;have s16:σ' 0=(.str s_0):=(Iz 0 (by decide)).trans aZ;rcases av h with⟨e17,h⟩|⟨e17,h⟩
   ·obtain⟨uz,e18,h⟩:=aj h;try refine bK ?_
    refine aA (acd s_0 e18) ?_;obtain rfl:=ak h;try refine bK ?_
    exact(dN bN _ _)
   ·obtain⟨e20,h⟩:=aO h;try refine bK ?_
    refine Yn (f:=aX) (k:= .i64) (n:=gT.1) (k':= .i64) (c:=gT.1) [] rfl aZ aZ (by omega) (by decide) (fun v21 ahZ H23 r24 axd abX akR=> ?_);have le:=abX.1;try simp only [AH.aI,AH.aJ,AH.aL,AH.aM]at le
    try refine bK ?_
    obtain⟨o36,h37,h⟩:=aj h;refine VE k s_0 0 _ _ _ (Fr.refl _ _) aZ _ h37 _ ?_
    ·rintro p38 σ' eo afT s42;rw [eo]at h;have s43:σ' 0=(.str s_0):=(afT 0 (by decide)).trans aZ;have s44:σ' 9=v21:=(afT 9 (by decide)).trans aZ;have s45:σ' 10=(.int .i64 0):=(afT 10 (by decide)).trans aZ;try refine bK ?_
     obtain⟨o89,h90,h⟩:=aj h;refine VG k v21 ahZ (ahZ++[]) s_0 (List.replicate gT.1.toNat []) 0 p38 p38 _ _ _ _ (Fr.refl _ _) (HF.refl _ _) aZ (by repeat (first|exact r24|apply aK.new|refine aK.put ?_ (fun hm=>by have:=aK.lt r24 _ hm;omega))) (fun i hi=>Or.inl (by simp only [List.mem_append,List.mem_cons,hi,true_or,or_true])) _ h90 _ ?_
     ·rintro kN v95 av8 σ' H94 eo afU afV ⟨s99,afO,amR⟩ r97 axe;rw [eo]at h;have axf:σ' 0=(.str s_0):=(afU 0 (by decide)).trans aZ;have le:=afV.1;try simp only [AH.aI,AH.aJ,AH.aL,AH.aM]at le
      rcases av h with⟨IC,h⟩|⟨IC,h⟩
      ·obtain⟨Yq,h⟩:=aO h;obtain⟨Ko,h⟩:=aO h;obtain⟨afS,Er,h⟩:=aj h;obtain⟨amS,asG,ajj,hil,axg,hC,hL,hD,hI⟩:=aK.content r97 Er;have axh:=ne_next hil;have axi:=aS hil;have axj:jG 1 v95 (.int .i64 kN.2.1)=some (.ref amS (kN.2.1.toNat)):=by simpa using hI .i64 kN.2.1 (by first|omega|decide) (by first|rfl|omega)
       have au3:asG[kN.2.1.toNat]? =some (.str afS):=by simpa using hC 0 _ rfl
       clear hC hL hD hI;try refine bK ?_
       refine nK (f:=aX) (id:=amS) (o:=kN.2.1.toNat) (i:=kN.2.1.toNat) (j:=0) (a:=afS) (y:=(s_0.drop kN.2.2.toNat)) (vs:=[(.str (s_0.drop kN.2.2.toNat))]) aZ ajj (by omega) (by repeat (first|exact r97|apply aK.new|refine aK.put ?_ (fun hm=>by have:=aK.lt r97 _ hm;omega))) Er aZ rfl rfl (by first|decide|(simp only [List.length_cons,List.length_nil];omega)) rfl (fun asH amT apo aho=> ?_);have le:=apo.1;try simp only [AH.aI,AH.aJ,AH.aL,AH.aM]at le
       obtain rfl:=ak h;try refine bK ?_
       exact(aK.fz bN (by repeat (first|exact amT|apply aK.new|refine aK.put ?_ (fun hm=>by have:=aK.lt amT _ hm;omega))))
      ·obtain rfl:=ak h;try refine bK ?_
       exact(aK.fz bN (by repeat (first|exact r97|apply aK.new|refine aK.put ?_ (fun hm=>by have:=aK.lt r97 _ hm;omega))))
def wz (k:Nat):Option (List Str):=
  Option.bind (Oh k ([65,83,83,85,77,69,32,65,83,83,85,77,80,84,73,79,78,32,65,88,73,79,77,32,66,89,32,67,65,83,69,32,67,72,79,79,83,69,32,67,79,78,83,84,65,78,84,32,67,79,78,83,84,65,78,84,83,32,68,69,70,32,68,69,70,73,78,69,32,68,69,70,83,32,68,79,77,65,73,78,32,69,76,83,69,32,69,78,65,66,76,69,68,32,69,88,67,69,80,84,32,69,88,84,69,78,68,83,32,70,65,76,83,69,32,72,65,86,69,32,72,73,68,69,32,73,70,32,73,78,32,73,78,83,84,65,78,67,69,32,76,65,77,66,68,65,32,76,69,77,77,65,32,76,69,84,32,76,79,67,65,76,32,77,79,68,85,76,69,32,78,69,87,32,79,66,86,73,79,85,83,32,79,77,73,84,84,69,68,32,79,84,72,69,82,32,80,73,67,75,32,80,82,79,79,70,32,80,82,79,80,79,83,73,84,73,79,78,32,80,82,79,86,69,32,81,69,68,32,82,69,67,85,82,83,73,86,69,32,83,85,66,83,69,84,32,83,85,70,70,73,67,69,83,32,84,65,75,69,32,84,72,69,78,32,84,72,69,79,82,69,77,32,84,82,85,69,32,85,78,67,72,65,78,71,69,68,32,85,78,73,79,78,32,85,83,69,32,86,65,82,73,65,66,76,69,32,86,65,82,73,65,66,76,69,83,32,87,73,84,72,32,87,73,84,78,69,83,83,32,66,79,79,76,69,65,78,32,83,84,82,73,78,71]:Str)) fun p2=>some p2
theorem Yr {k:Nat} {r:List Str} (h:wz k=some r):aF Tryz.prog 126 [] (.aB (r.map aX) .unk):=by
  refine aF.aP (bg.mem .nil) (aH aoX (by simp) (aD ?_)) (aU bN _);unfold wz at h;unfold ahu;obtain⟨p2,e1,h⟩:=aj h;try refine ah ?_
  refine aA (ace e1) ?_;obtain rfl:=ak h;try refine ah ?_
  exact(dN bN _ _)
end Go.VL
end
section
namespace Go.VL
open Go.Proofs Go.RowKit
def Gq:List Str:=(wz 800).getD []
theorem ad2:wz 800=some Gq:=by
  have h:(wz 800).isSome=true:=by kernel_rfl
  rw [Gq];cases h1:wz 800 with
  |none=>rw [h1]at h;cases h
  |some r=>rfl
theorem amU:aF Tryz.prog 126 [] (.aB (Gq.map aX) .unk):=Yr ad2
end Go.VL
end
section
set_option maxHeartbeats 4000000
namespace Go.VL
open Go.Proofs
def Bz (k:Nat) (s_0:Str) (qY:Bool):Option Bool:=
  cond qY (some (true)) (Option.bind (kU s_0 ([87,70,95]:Str)) fun p5=>cond p5 (some (true)) (Option.bind (kU s_0 ([83,70,95]:Str)) fun p8=>cond p8 (some (true)) (Option.bind (dB k Gq s_0) fun rC=>some (rC))))
def KI:List Nat:=List.range' 11 12
theorem VH (k:Nat): ∀(s_0:Str) (qY:Bool) (aC σ:Nat->PV) (H:AH) (f0:Fr KI aC σ) (sl:σ 0=(.str s_0)/\σ 10=(.bool qY)) (o:Bool) (h:Bz k s_0 qY=some o) (Q:Post) (q0: ∀(p:Bool) (σ':Nat->PV),o=p->Fr KI aC σ'->(σ' 22=(.bool p))->Q .normal σ' H),cO Tryz.prog R6 (Q .normal) σ H:=by
  intro s_0 qY aC σ H f0 sl o h Q q0;obtain⟨s0,s10⟩:=sl;unfold Bz at h;refine dx ?_;unfold R6;rcases av h with⟨e3,h⟩|⟨e3,h⟩
  ·obtain rfl:=ak h;try refine ah ?_
   exact q0 _ _ rfl aN au
  ·obtain⟨p5,e4,h⟩:=aj h;try refine ah ?_
   refine aA (CS e4) ?_;rcases av h with⟨e6,h⟩|⟨e6,h⟩
   ·obtain rfl:=ak h;try refine ah ?_
    exact q0 _ _ rfl aN au
   ·obtain⟨p8,e7,h⟩:=aj h;try refine ah ?_
    refine aA (CS e7) ?_;rcases av h with⟨e9,h⟩|⟨e9,h⟩
    ·obtain rfl:=ak h;try refine ah ?_
     exact q0 _ _ rfl aN au
    ·try refine ah ?_
     refine aA (amU) ?_;obtain⟨rC,e10,h⟩:=aj h;try refine ah ?_
     refine aA (iP e10) ?_;obtain rfl:=ak h;try refine ah ?_
     exact q0 _ _ rfl aN au
def xD (c_5:Int) (Yt:Bool):Option Bool:=
  cond Yt (some (true)) (Option.bind (fP (IntKind.wrap .i64 c_5) 65 90) fun p29=>some (p29))
theorem VI: ∀(c_5:Int) (Yt:Bool) (aC σ:Nat->PV) (H:AH) (f0:Fr [35,36,37,38] aC σ) (sl:σ 5=(.int .u8 c_5)/\σ 34=(.bool Yt)) (o:Bool) (h:xD c_5 Yt=some o) (Q:Post) (q0: ∀(p:Bool) (σ':Nat->PV),o=p->Fr [35,36,37,38] aC σ'->(σ' 38=(.bool p))->Q .normal σ' H),cO Tryz.prog R7 (Q .normal) σ H:=by
  intro c_5 Yt aC σ H f0 sl o h Q q0;obtain⟨s5,s34⟩:=sl;unfold xD at h;refine dx ?_;unfold R7;rcases av h with⟨e27,h⟩|⟨e27,h⟩
  ·obtain rfl:=ak h;try refine ah ?_
   exact q0 _ _ rfl aN au
  ·obtain⟨p29,e28,h⟩:=aj h;try refine ah ?_
   refine aA (fQ e28) ?_;obtain rfl:=ak h;try refine ah ?_
   exact q0 _ _ rfl aN au
def jU:Nat->Int->(List Int)->Int->Int->Option (Int⊕Bool)
  |0,_,_,_,_=>none
  |k+1,kG,su,fV,jE=>
    cond (decide (jE<fV)) (if 0<=jE then Option.bind (su[jE.toNat]?) fun x23=>Option.bind (fP (IntKind.wrap .i64 x23) 97 122) fun p26=>Option.bind (xD x23 p26) (fun p32=>cond p32 (jU k (IntKind.wrap .i64 (kG+1)) su fV (IntKind.wrap .i64 (jE+1))) (Option.bind (fP (IntKind.wrap .i64 x23) 48 57) fun p44=>cond p44 (jU k kG su fV (IntKind.wrap .i64 (jE+1))) (cond (x23 !=95) (some (.inr (false))) (jU k kG su fV (IntKind.wrap .i64 (jE+1))))))else none) (some (.inl kG))
def Es:List Nat:=[2,3,5]++List.range' 26 25
theorem VJ: ∀(k:Nat) (kG:Int) (su:List Int) (fV:Int) (jE:Int) (aC σ:Nat->PV) (H:AH) (f0:Fr Es aC σ) (sl:σ 3=(.int .i64 kG)/\σ 24=(.aB (su.map u8L) .unk)/\σ 25=(.int .i64 fV)/\σ 26=(.int .i64 jE)) (o:Int⊕Bool) (h:jU k kG su fV jE=some o) (Q:Post) (q0: ∀(p:Int) (σ':Nat->PV),o= .inl p->Fr Es aC σ'->(σ' 3=(.int .i64 p))->Q (.exit 0) σ' H) (q1: ∀(p:Bool) (σ':Nat->PV),o= .inr (p)->Fr Es aC σ'->(σ' 2=(.bool p))->Q .ret σ' H),W Tryz.prog (.loop R8) Q σ H:=by
  intro k
  induction k with
  |zero=>intro kG su fV jE aC σ H f0 sl o h Q q0 q1;simp only [jU,reduceCtorEq]at h
  |succ k ih=>
    intro kG su fV jE aC σ H f0 sl o h Q q0 q1;obtain⟨s3,s24,uD,uS⟩:=sl;unfold jU at h;refine aV (fun K hK=>aD ?_);unfold R8;rcases av h with⟨e21,h⟩|⟨e21,h⟩
    ·obtain⟨e22,h⟩:=aO h;obtain⟨x23,e24,h⟩:=aj h;obtain⟨p26,e25,h⟩:=aj h;try refine ah ?_
     refine aA (fQ e25) ?_;try refine ah ?_
     obtain⟨o30,h31,h⟩:=aj h;refine VI x23 p26 _ _ _ (Fr.refl _ _) au _ h31 _ ?_
     ·rintro p32 σ' eo uh s36;rw [eo]at h;have s37:σ' 3=(.int .i64 kG):=(uh 3 (by decide)).trans au;have s38:σ' 5=(.int .u8 x23):=(uh 5 (by decide)).trans au;have s39:σ' 24=(.aB (su.map u8L) .unk):=(uh 24 (by decide)).trans au;have s40:σ' 25=(.int .i64 fV):=(uh 25 (by decide)).trans au;have s41:σ' 26=(.int .i64 jE):=(uh 26 (by decide)).trans au;rcases av h with⟨e42,h⟩|⟨e42,h⟩
      ·try refine ah ?_
       refine hK _ _ ?_;exact ih (IntKind.wrap .i64 (kG+1)) su fV (IntKind.wrap .i64 (jE+1)) _ _ _ (by repeat (first|exact f0|refine Fr.upd (by decide) ?_|refine Fr.via uh (by decide) ?_)) au _ h _ q0 q1
      ·obtain⟨p44,e43,h⟩:=aj h;try refine ah ?_
       refine aA (fQ e43) ?_;rcases av h with⟨e45,h⟩|⟨e45,h⟩
       ·try refine ah ?_
        refine hK _ _ ?_;exact ih kG su fV (IntKind.wrap .i64 (jE+1)) _ _ _ (by repeat (first|exact f0|refine Fr.upd (by decide) ?_|refine Fr.via uh (by decide) ?_)) au _ h _ q0 q1
       ·rcases av h with⟨e46,h⟩|⟨e46,h⟩
        ·obtain rfl:=ak h;try refine ah ?_
         exact q1 _ _ rfl (by repeat (first|exact f0|refine Fr.upd (by decide) ?_|refine Fr.via uh (by decide) ?_)) au
        ·try refine ah ?_
         refine hK _ _ ?_;exact ih kG su fV (IntKind.wrap .i64 (jE+1)) _ _ _ (by repeat (first|exact f0|refine Fr.upd (by decide) ?_|refine Fr.via uh (by decide) ?_)) au _ h _ q0 q1
    ·obtain rfl:=ak h;try refine ah ?_
     exact q0 _ _ rfl aN au
def mR (k:Nat) (s_0:Str):Option Bool:=
  Option.bind (fP (s_0.length:Int) 1 24) fun p2=>Option.bind (Bz k s_0 (!p2)) (fun kZ=>cond kZ (some false) (Option.bind (jU k 0 (qM s_0) ((qM s_0).length:Int) 0) (fun o=>Sum.elim (fun p49=>some (decide (p49>0))) (fun p54=>some p54) o)))
theorem sD {k:Nat} {s_0:Str} {r:Bool} (h:mR k s_0=some r):aF Tryz.prog 77 [(.str s_0)] (.bool r):=by
  refine aF.aP (bg.mem (.cons (.str _) .nil)) (aH arP (by simp) (aD ?_)) (.bool _);unfold mR at h;unfold alB;obtain⟨p2,e1,h⟩:=aj h;try refine ah ?_
  refine aA (fQ e1) ?_;try refine ah ?_
  obtain⟨o12,Pp,h⟩:=aj h;refine VH k s_0 (!p2) _ _ _ (Fr.refl _ _) au _ Pp _ ?_
  ·rintro kZ σ' eo yh pQ;rw [eo]at h;have qE:σ' 0=(.str s_0):=(yh 0 (by decide)).trans au;rcases av h with⟨e20,h⟩|⟨e20,h⟩
   ·obtain rfl:=ak h;try refine ah ?_
    exact(.pure _ (.bool _))
   ·try refine ah ?_
    obtain⟨o47,h48,h⟩:=aj h;refine VJ k 0 (qM s_0) ((qM s_0).length:Int) 0 _ _ _ (Fr.refl _ _) au _ h48 _ ?_ ?_
    ·rintro p49 σ' eo Kt s53;subst eo;rw [bT]at h;obtain rfl:=ak h;try refine ah ?_
     exact(.pure _ (.bool _))
    ·rintro p54 σ' eo acf s58;subst eo;rw [bZ]at h;obtain rfl:=ak h;try refine ah ?_
     exact(.pure _ (.bool _))
def wB (k:Nat) (s_0:Str):Option Bool:=
  cond (decide ((s_0.length:Int)>49)) (some false) (Option.bind (afR s_0 ([33]:Str)) fun p5=>cond (decide (p5>=0)) (if 0<=p5/\p5.toNat<=s_0.length then if 0<=(IntKind.wrap .i64 (p5+1))/\(IntKind.wrap .i64 (p5+1)).toNat<=s_0.length then Option.bind (mR k (s_0.take p5.toNat)) fun gT=>cond gT (Option.bind (mR k (s_0.drop (IntKind.wrap .i64 (p5+1)).toNat)) fun qF=>some qF) (some false)else none else none) (Option.bind (mR k s_0) fun GN=>cond GN (some true) (some false)))
theorem KJ {k:Nat} {s_0:Str} {r:Bool} (h:wB k s_0=some r):aF Tryz.prog 146 [(.str s_0)] (.bool r):=by
  refine aF.aP (bg.mem (.cons (.str _) .nil)) (aH ao5 (by simp) (aD ?_)) (.bool _);unfold wB at h;unfold ahC;rcases av h with⟨e1,h⟩|⟨e1,h⟩
  ·obtain rfl:=ak h;try refine ah ?_
   exact(.pure _ (.bool _))
  ·try refine ah ?_
   refine aH ape (by simp) (aD ?_);unfold ahK;try refine ah ?_
   refine aH apg (by simp) (aD ?_);unfold ahM;obtain⟨p5,e4,h⟩:=aj h;try refine ah ?_
   refine aA (amJ s_0 ([33]:Str) e4) ?_;rcases av h with⟨e6,h⟩|⟨e6,h⟩
   ·try refine ah ?_
    refine eF ?_;obtain⟨e7,h⟩:=aO h;obtain⟨e8,h⟩:=aO h;obtain⟨gT,e9,h⟩:=aj h;try refine ah ?_
    refine aA (sD e9) ?_;rcases av h with⟨e11,h⟩|⟨e11,h⟩
    ·obtain⟨qF,e12,h⟩:=aj h;try refine ah ?_
     refine aA (sD e12) ?_;obtain rfl:=ak h;try refine ah ?_
     exact(.pure _ (.bool _))
    ·obtain rfl:=ak h;try refine ah ?_
     exact(.pure _ (.bool _))
   ·obtain⟨GN,e14,h⟩:=aj h;try refine ah ?_
    refine aA (sD e14) ?_;rcases av h with⟨e16,h⟩|⟨e16,h⟩
    ·obtain rfl:=ak h;try refine ah ?_
     exact(.pure _ (.bool _))
    ·obtain rfl:=ak h;try refine ah ?_
     exact(.pure _ (.bool _))
end Go.VL
end
section
namespace Go.VL
open Go.Proofs Go.RowKit
theorem Vs.apq {G:Gh} {n:Nat} {s:List UInt8} {g:FuncId} {vs:Array Value} (h:Vs G n [.str s,.fn (.func g) [] []] vs):vs=#[.string ⟨s.toArray⟩,.func (.func g) #[] #[]]:=by
  obtain⟨h1,h2⟩:=h
  match vs,h1,h2 with
  |⟨[v,u]⟩,_,h2=>
    have e1:=h2 0 (.str s) v rfl rfl;have e2:=h2 1 (.fn (.func g) [] []) u rfl rfl;cases e1;cases e2 with
    |fn g cs ds vs us h1 _ h3 _=>
      have a1:vs=#[]:=Array.size_eq_zero_iff.1 h1;have a2:us=#[]:=Array.size_eq_zero_iff.1 h3;rw [a1,a2]
theorem ad5 {g:FuncId} {p:Nat->Bool} (hp: ∀x:Nat,x<=1114111->aF Tryz.prog g [.int .i32 x] (.bool (p x))) {w:World} (hg: ∀a x,Glob.gc a=some x->w.cell? a=some x) (hw:WH (fun b=>w.heap.size<=b) w):PredGrows Tryz.prog g #[] p w:=by
  intro W x hx hb;have hM:cK Tryz.prog g [.int .i32 x] AH.empty fun v _=>v= .bool (p x):=cK.mono (hp x hx AH.empty) fun v H' q=>q.1;refine(cK.top hM (fun a y e=>(World.cell?_of_block (hb.block _ (World.block_lt_of_cell? w a (hg a y e)))).trans (hg a y e)) (hw.keep fun b _ hlt=>hb.block b hlt).old (vs:=#[encR x]++#[]) ?_);exact⟨rfl,fun j c y e e'=>by
    match j,e,e' with
    |0,e,e'=>cases e;cases e';exact .int _ _⟩
theorem Tz {g:FuncId} (p:Nat->Bool) (he: ∀args w,(callFunc g args).run Tryz.prog w= .ok (.enter g args) w) (hp: ∀x:Nat,x<=1114111->aF Tryz.prog g [.int .i32 x] (.bool (p x))) (s:Str):
    aF Tryz.prog 143 [.str s,.fn (.func g) [] []] (.bool (decide (0<=Lib.idxFunc p true ⟨s.toArray⟩))):=by
  refine UN ⟨_,Tryz.func143,rfl,by kernel_rfl⟩ (fun w G vs hg hi hw hv=> ?_) (bg.mem (.cons (.str _) (.cons (.fn _ _ _ (bg.mem .nil) (bg.mem .nil)) .nil)));rw [Vs.apq hv];refine(Tryz.strings_ContainsFunc_grows g #[] he p ⟨s.toArray⟩ w (ad5 hp hg hw)).mono ?_;rintro e w' ⟨rfl,hb⟩;exact⟨_,rfl,hb,fun G n=> .bool _⟩
def PI (x y:Int):Int×Int:=(((x.toNat*y.toNat/18446744073709551616:Nat):Int),((x.toNat*y.toNat% 18446744073709551616:Nat):Int))
theorem Vs.apr {G:Gh} {n:Nat} {x y:Int} {k k':IntKind} {vs:Array Value} (h:Vs G n [.int k x,.int k' y] vs):vs=#[.int k x,.int k' y]:=by
  obtain⟨h1,h2⟩:=h
  match vs,h1,h2 with
  |⟨[v,u]⟩,_,h2=>
    have e1:=h2 0 (.int k x) v rfl rfl;have e2:=h2 1 (.int k' y) u rfl rfl;cases e1;cases e2;rfl
theorem ajk (x y:Int) (h:(0<=x/\x<18446744073709551616)/\(0<=y/\y<18446744073709551616)):aF Tryz.prog 189 [.int .u64 x,.int .u64 y] (.dw [.int .u64 (PI x y).1,.int .u64 (PI x y).2]):=by
  refine IL ⟨_,Tryz.func189,rfl,by kernel_rfl⟩ (fun w G vs hg hi hv=> ?_) (bg.mem (.cons (.int _ _) (.cons (.int _ _) .nil)));rw [Vs.apr hv];obtain⟨a,rfl⟩: ∃a:Nat,x=a:=⟨x.toNat,by omega⟩;obtain⟨b,rfl⟩: ∃b:Nat,y=b:=⟨y.toNat,by omega⟩;refine(Tryz.bits_Mul64 a b (by omega) (by omega) w).mono ?_;rintro e w' ⟨rfl,rfl⟩;refine⟨_,rfl,Below.refl _ _,fun G n=> ?_⟩;refine .dw _ _ rfl fun j c y e e'=> ?_
  match j,e,e' with
  |0,e,e'=>cases e;cases e';exact .int _ _
  |1,e,e'=>cases e;cases e';exact .int _ _
theorem M5 (p:Nat->Bool) (hp: ∀x,128<=x->p x=true) (s:Str): ∀(f pos:Nat),s.length<=pos+f->
    decide (0<=Lib.idxFuncFrom p true ⟨s.toArray⟩ f pos)=(s.drop pos).any (fun c=>p c.toNat)
  |0,pos,h=>by rw [List.drop_eq_nil_of_le (by omega)];rfl
  |f+1,pos,h=>by
    have hsz:(⟨s.toArray⟩:ByteArray).size=s.length:=rfl;by_cases hlt:pos<s.length
    · have hlt':pos<(⟨s.toArray⟩:ByteArray).size:=hlt;have hget:(⟨s.toArray⟩:ByteArray)[pos]'hlt'=s[pos]:=rfl;rw [List.drop_eq_getElem_cons hlt,List.any_cons];simp only [Lib.idxFuncFrom,hsz,hlt,if_true];by_cases ha:(s[pos]).toNat<128
      · rw [decode_ascii ⟨s.toArray⟩ pos hlt' (by rw [hget];exact ha),hget];by_cases hq:p (s[pos]).toNat=true
        · simp only [hq,if_true,Bool.true_or];exact decide_eq_true (by omega)
        · simp only [hq,Bool.false_or];exact M5 p hp s f (pos+1) (by omega)
      · have hd:=decode_high ⟨s.toArray⟩ pos hlt' (by rw [hget];omega);rw [if_pos (hp _ hd.1),hp _ (by omega),Bool.true_or];exact decide_eq_true (by omega)
    · rw [List.drop_eq_nil_of_le (by omega),Lib.idxFuncFrom_end _ _ _ _ _ (by rw [hsz];exact hlt)];rfl
theorem ajl (p:Nat->Bool) (hp: ∀x,128<=x->p x=true) (s:Str):decide (0<=Lib.idxFunc p true ⟨s.toArray⟩)=s.any (fun c=>p c.toNat):=by
  have h:=M5 p hp s s.length 0 (by omega);rw [List.drop_zero]at h;exact h
def Oi (x:Nat):Bool:=bif decide (32<=x)&&decide (x<=126)then x==34||x==92 else true
theorem ad6 (x:Nat) (h:x<=1114111):Df (x:Int)=some (Oi x):=by
  have hw:IntKind.wrap .i64 (x:Int)=x:=IntWalk.i64_in _ (by omega);unfold Df fP Oi;rw [hw];by_cases h1:32<=x
  · have h1':(32:Int)<=x:=by omega
    by_cases h2:x<=126
    · have h2':(x:Int)<=126:=by omega
      have e1:((x:Int)==34)=(x==34):=by rw [Bool.eq_iff_iff];simp only [beq_iff_eq];omega
      have e2:((x:Int)==92)=(x==92):=by rw [Bool.eq_iff_iff];simp only [beq_iff_eq];omega
      simp only [h1,h1',h2,h2',decide_true,cond_true,Bool.and_true,Option.bind_some,e1,e2];cases x==34<;>rfl
    · have h2': ¬(x:Int)<=126:=by omega
      simp [h1,h1',h2,h2']
  · have h1': ¬(32:Int)<=x:=by omega
    simp [h1,h1']
def acg (s:Str):Bool:=s.any (fun c=>Oi c.toNat)
theorem amW (s:Str):aF Tryz.prog 143 [.str s,.fn (.func 142) [] []] (.bool (acg s)):=by
  have h:=Tz (g:=142) Oi (fun args w=>by kernel_rfl) (fun x hx=>Ya (ad6 x hx)) s;rw [ajl Oi (fun x hx=>by
    have h2: ¬x<=126:=by omega
    simp [Oi,h2]) s]at h
  exact h
end Go.VL
end
section
set_option maxHeartbeats 4000000
namespace Go.VL
open Go.Proofs
def vD (s_0:Str):Option Bool:=
  cond (decide ((s_0.length:Int)<=40)) (some (!(acg s_0))) (some false)
theorem Dl {s_0:Str} {r:Bool} (h:vD s_0=some r):aF Tryz.prog 92 [(.str s_0)] (.bool r):=by
  refine aF.aP (bg.mem (.cons (.str _) .nil)) (aH arY (by simp) (aD ?_)) (.bool _);unfold vD at h;unfold alM;rcases av h with⟨e1,h⟩|⟨e1,h⟩
  ·try refine ah ?_
   refine aA (amW s_0) ?_;obtain rfl:=ak h;try refine ah ?_
   exact(.pure _ (.bool _))
  ·obtain rfl:=ak h;try refine ah ?_
   exact(.pure _ (.bool _))
end Go.VL
end
section
namespace Go.VL
variable [Glob]
section
variable {P:Program} {Q:Post} {σ:Nat->PV} {s:List Fm} {α β:Type} {H:AH} {f:α->List PV} {sz:Nat} {g:β->List PV} {sz2:Nat}
def Mk (f:α->List PV) (sz:Nat) (xs:List α) (H:AH) (v:PV) (H':AH):Prop:= ∃ids,aK H' f sz xs v ids/\Nw H [] ids/\HF [] H H'/\ ∀c3,cB H c3->cB H' c3
def zK (P:Program) (g:FuncId) (args:List PV) (f:α->List PV) (sz:Nat) (xs:List α):Prop:= ∀H,cK P g args H (Mk f sz xs H)
theorem He {d:Option Nat} {g:FuncId} {args:List PV} {l:List aQ} {xs:List α} (hm:zK P g args f sz xs)
    (h: ∀(v':PV) (jD:List Nat) (H':AH),aK H' f sz xs v' jD->Nw H [] jD->HF [] H H'->(∀c3,cB H c3->cB H' c3)->WO P l s Q (upd σ d v') H'):MC P g args d l s Q σ H:=
  cK.mono (hm H) fun v H' ⟨ids,h1,h2,h3,h4⟩=>h v ids H' h1 h2 h3 h4
theorem ajm {bytes:Nat} {zero:List PV} {x y:AE} [hr:rR f sz] (z:α) (hz:f z=zero) {k k':IntKind} {n:Int} (hx:x.ev σ= .int k n) (hy:y.ev σ= .int k' n)
    (hb:0<=n/\n<=1099511627776/\bytes*n<=1099511627776) (hs:0<sz):iN P (.d (.wW sz bytes zero x y)) (Mk f sz (List.replicate n.toNat z) H) σ H:=by
  have h:=Yn (P:=P) (s:=[]) (Q:=fun e σ' H'=> ∃v,σ'=upd σ (some 0) v/\Mk f sz (List.replicate n.toNat z) H v H') (d:=some 0) (l:=[]) (H:=H) (bytes:=bytes) (x:=x) (y:=y) z hz hx hy ⟨hb.1,Int.le_refl _,hb.2.1,hb.2.2⟩ hs
    (fun v' jD H' h1 h2 h3 h4=>⟨v',rfl,jD,h1,h2,h3,h4⟩)
  have h2:WD P (kM (.wW sz bytes zero x y) σ H) (some 0) [] [] (fun e σ' H'=> ∃v,σ'=upd σ (some 0) v/\Mk f sz (List.replicate n.toNat z) H v H') σ:=h;show(match kM (.wW sz bytes zero x y) σ H with|some (p,H')=>Mk f sz (List.replicate n.toNat z) H p H'|none=>False)
  revert h2;cases kM (.wW sz bytes zero x y) σ H with
  |none=>intro h2;exact h2
  |some q=>
    intro h2;obtain⟨v,e,h3⟩:=(h2: ∃v,upd σ (some 0) q.1=upd σ (some 0) v/\Mk f sz (List.replicate n.toNat z) H v q.2);have e2:=congrFun e 0;simp only [upd,if_true]at e2;show Mk f sz (List.replicate n.toNat z) H q.1 q.2
    rw [e2];exact h3
theorem ajn {g:FuncId} {fs cs args:List PV} {es:List AE} {xs:List α} (hm:zK P g args f sz xs) (ha:fs++evs σ es++cs=args):iN P (.call (.c (.fn (.func g) fs cs)) es) (Mk f sz xs H) σ H:=by
  show cK P g (fs++evs σ es++cs) H _
  rw [ha];exact hm H
def PK (P:Program):List (aQ×Bool)->(Nat->PV)->(Nat->PV)->Prop
  |[],_,_=>True
  |(o,d)::l,val,σ=>(d=true\/(o.g=none/\ ∀H,iN P o.k (fun r iO=>r=val 0/\iO=H) σ H))/\PK P l (fun i=>val (i+1)) (upd σ o.dst (val 0))
theorem PK.at {P:Program}: ∀{pr:List (aQ×Bool)} {val σ:Nat->PV} (h:PK P pr val σ) (i:Nat) (o:aQ),pr[i]? =some (o,false)->pI o (dL pr val σ i)/\ ∀H,iN P o.k (fun r iO=>r=val i/\iO=H) (dL pr val σ i) H
  |(o,d)::l,val,σ,h,0,o',e=>by
    cases e;rcases h.1 with h1|⟨h1,h2⟩
    · cases h1
    · refine⟨?_,h2⟩;unfold pI;rw [h1];trivial
  |(o,d)::l,val,σ,h,i+1,o',e=>PK.at (pr:=l) h.2 i o' e
theorem ad7 {ms:List Nat} {pr:List (aQ×Bool)} {K:(Nat->PV)->AH->Prop} {a b:Nat} {oa ob:aQ} {xs:List α} {ys:List β} (oU:PV->PV->Nat->PV) (hr:AP pr=[a,b]) (hne:a≠b)
    (pra:pr[a]? =some (oa,true)) (prb:pr[b]? =some (ob,true)) (ha: ∀x y,oU x y a=x) (hb: ∀x y,oU x y b=y)
    (agA: ∀x x' y i,i≠a->fD ms a i=false->oU x y i=oU x' y i) (agB: ∀x y y' i,i≠b->fD ms b i=false->oU x y i=oU x y' i)
    (pure: ∀x y,PK P pr (oU x y) σ)
    (mkA: ∀y H,pI oa (dL pr (oU ud y) σ a)/\iN P oa.k (Mk f sz xs H) (dL pr (oU ud y) σ a) H)
    (mkB: ∀x H,pI ob (dL pr (oU x ud) σ b)/\iN P ob.k (Mk g sz2 ys H) (dL pr (oU x ud) σ b) H)
    (hend: ∀va vb M6 Hf H2,aK H2 f sz xs va M6->aK H2 g sz2 ys vb Hf->Dj M6 Hf->Nw H [] M6->Nw H [] Hf->HF [] H H2->(∀c3,cB H c3->cB H2 c3)->K (dL pr (oU va vb) σ pr.length) H2):
    ∃val:Nat->PV,yF P ms pr K σ (AP pr).length (AP pr) val H:=by
  refine⟨oU ud ud,?_⟩;rw [hr]
  have hpure: ∀(rem:List Nat) (x y:PV) (H:AH) (i:Nat) (o:aQ),pr[i]? =some (o,false)->(∀s∈rem,fD ms s i=false)->(∀(s:Nat) (o':aQ),pr[s]? =some (o',true)->s∉rem->fD ms i s=false)->
      (uf o (dL pr (oU x y) σ i)/\oU x y i=ud)\/(pI o (dL pr (oU x y) σ i)/\iN P o.k (fun r iO=>r=oU x y i/\iO=H) (dL pr (oU x y) σ i) H):=
    fun rem x y H i o e _ _=> .inr ⟨((pure x y).at i o e).1,((pure x y).at i o e).2 H⟩
  have hfa:[a,b].filter (·!=a)=[b]:=by simp [Ne.symm hne]
  have UR:[a,b].filter (·!=b)=[a]:=by simp [hne]
  have hj: ∀{M6 Hf:List Nat} {H1:AH},(∀i∈M6,i<H1.next)->Nw H1 [] Hf->Dj M6 Hf:=fun h1 h2 i hi hj=>by
    rcases h2 i hj with q|q
    · cases q
    · have:=h1 i hi;omega
  have hnw: ∀{H1:AH} {Hf:List Nat},HF [] H H1->Nw H1 [] Hf->Nw H [] Hf:=fun h1 h2 i hi=>by
    rcases h2 i hi with q|q
    · exact .inl q
    · exact .inr (Nat.le_trans h1.1 q)
  have hft: ∀{H1 H2:AH},HF [] H H1->HF [] H1 H2->HF [] H H2:=fun h1 h2=>⟨Nat.le_trans h1.1 h2.1,fun i hi hm=>(h2.2 i (Nat.lt_of_lt_of_le hi h1.1) hm).trans (h1.2 i hi hm)⟩
  unfold yF;refine⟨hpure _ ud ud H,(fun e=>by cases e),fun j hj' o e hbj=> ?_⟩;rcases List.mem_cons.1 hj' with rfl|hj'
  · rw [pra]at e;cases e;refine⟨(mkA ud H).1,uN (fun va H1 hm=> ?_) (mkA ud H).2⟩;obtain⟨M6,a1,a2,a3,a4⟩:=hm;refine⟨oU va ud,fun i hi hbi=> ?_,ha _ _,?_⟩
    · exact agA _ _ _ i (fun q=>hi (q▸List.mem_cons_self ..)) (hbi _ (List.mem_cons_self ..))
    · rw [hfa];unfold yF;refine⟨hpure _ va ud H1,(fun e=>by cases e),fun j hj2 o e hbj=> ?_⟩;rw [List.mem_singleton.1 hj2]at e⊢;rw [prb]at e;cases e;refine⟨(mkB va H1).1,uN (fun vb H2 hm=> ?_) (mkB va H1).2⟩;obtain⟨Hf,b1,b2,b3,b4⟩:=hm;refine⟨oU va vb,fun i hi hbi=>agB _ _ _ i (fun q=>hi (q▸List.mem_cons_self ..)) (hbi _ (List.mem_cons_self ..)),hb _ _,?_⟩
      have hf:[b].filter (·!=b)=[]:=by simp
      rw [hf];unfold yF;exact⟨hpure _ va vb H2,fun _=>hend va vb M6 Hf H2 (a1.hf b3 Dj.nil.symm) b1 (hj (fun i hi=>a1.lt i hi) b2) a2 (hnw a3 b2) (hft a3 b3) (fun c3 h=>b4 c3 (a4 c3 h)),rfl⟩
  · rw [List.mem_singleton.1 hj']at e⊢;rw [prb]at e;cases e;refine⟨(mkB ud H).1,uN (fun vb H1 hm=> ?_) (mkB ud H).2⟩;obtain⟨Hf,b1,b2,b3,b4⟩:=hm;refine⟨oU ud vb,fun i hi hbi=> ?_,hb _ _,?_⟩
    · exact agB _ _ _ i (fun q=>hi (q▸List.mem_cons_of_mem _ (List.mem_cons_self ..))) (hbi _ (List.mem_cons_of_mem _ (List.mem_cons_self ..)))
    · rw [UR];unfold yF;refine⟨hpure _ ud vb H1,(fun e=>by cases e),fun j hj2 o e hbj=> ?_⟩;rw [List.mem_singleton.1 hj2]at e⊢;rw [pra]at e;cases e;refine⟨(mkA vb H1).1,uN (fun va H2 hm=> ?_) (mkA vb H1).2⟩;obtain⟨M6,a1,a2,a3,a4⟩:=hm;refine⟨oU va vb,fun i hi hbi=>agA _ _ _ i (fun q=>hi (q▸List.mem_cons_self ..)) (hbi _ (List.mem_cons_self ..)),ha _ _,?_⟩
      have hf:[a].filter (·!=a)=[]:=by simp
      rw [hf];unfold yF;exact⟨hpure _ va vb H2,fun _=>hend va vb M6 Hf H2 a1 (b1.hf a3 Dj.nil.symm) (Dj.symm (hj (fun i hi=>b1.lt i hi) a2)) (hnw b3 a2) b2 (hft b3 a3) (fun c3 h=>a4 c3 (b4 c3 h)),rfl⟩
def LZ (P:Program) (H:AH) (skip:Nat->Bool):Nat->List (aQ×Bool)->(Nat->PV)->(Nat->PV)->Prop
  |_,[],_,_=>True
  |n,(o,d)::l,val,σ=>(d=true\/skip n=true\/(o.g=none/\iN P o.k (fun r iO=>r=val 0/\iO=H) σ H))/\LZ P H skip (n+1) l (fun i=>val (i+1)) (upd σ o.dst (val 0))
theorem LZ.at {P:Program} {H:AH} {skip:Nat->Bool}: ∀{pr:List (aQ×Bool)} {n:Nat} {val σ:Nat->PV} (h:LZ P H skip n pr val σ) (i:Nat) (o:aQ),pr[i]? =some (o,false)->skip (n+i)=false->pI o (dL pr val σ i)/\iN P o.k (fun r iO=>r=val i/\iO=H) (dL pr val σ i) H
  |(o,d)::l,n,val,σ,h,0,o',e,hk=>by
    cases e;rcases h.1 with h1|h1|⟨h1,h2⟩
    · cases h1
    · rw [Nat.add_zero,h1]at hk;cases hk
    · refine⟨?_,h2⟩;unfold pI;rw [h1];trivial
  |(o,d)::l,n,val,σ,h,i+1,o',e,hk=>LZ.at (pr:=l) h.2 i o' e (by rw [Nat.add_assoc,Nat.add_comm 1 i];exact hk)
theorem ajo {ms:List Nat} {pr:List (aQ×Bool)} {K:(Nat->PV)->AH->Prop} (Inv:List Nat->(Nat->PV)->AH->Prop)
    (pure: ∀rem val H,Inv rem val H-> ∃skip,LZ P H skip 0 pr val σ/\ ∀i,skip i=true->(∃s∈rem,fD ms s i=true)\/ ∃s,s∈AP pr/\s∉rem/\fD ms i s=true)
    (step: ∀rem val H j o,Inv rem val H->j∈rem->pr[j]? =some (o,true)->(∀s∈rem,fD ms s j=false\/s=j)->
      pI o (dL pr val σ j)/\iN P o.k (fun r H'=> ∃val':Nat->PV,(∀i,i∉rem->(∀s∈rem,fD ms s i=false)->val' i=val i)/\val' j=r/\Inv (rem.filter (·!=j)) val' H') (dL pr val σ j) H)
    (fin: ∀val H,Inv [] val H->K (dL pr val σ pr.length) H): ∀(n:Nat) (rem:List Nat) (val:Nat->PV) (H:AH),rem.length<=n->Inv rem val H->yF P ms pr K σ n rem val H:=by
  have hp: ∀rem val H,Inv rem val H-> ∀(i:Nat) (o:aQ),pr[i]? =some (o,false)->(∀s∈rem,fD ms s i=false)->(∀(s:Nat) (o':aQ),pr[s]? =some (o',true)->s∉rem->fD ms i s=false)->
      (uf o (dL pr val σ i)/\val i=ud)\/(pI o (dL pr val σ i)/\iN P o.k (fun r iO=>r=val i/\iO=H) (dL pr val σ i) H):=by
    intro rem val H h i o e h1 h2;obtain⟨skip,k1,k2⟩:=pure rem val H h;refine .inr (k1.at i o e ?_);rw [Nat.zero_add];cases hk:skip i with
    |false=>rfl
    |true=>
      rcases k2 i hk with⟨s,hs,hb⟩|⟨s,hs,hn,hb⟩
      · rw [h1 s hs]at hb;cases hb
      · obtain⟨o',e'⟩:=(J8 s).1 hs;rw [h2 s o' e' hn]at hb;cases hb
  intro n
  induction n with
  |zero=>
    intro rem val H hn h;obtain rfl:rem=[]:=List.length_eq_zero_iff.1 (by omega);unfold yF;exact⟨hp _ _ _ h,fun _=>fin _ _ h,rfl⟩
  |succ n ih=>
    intro rem val H hn h;unfold yF;refine⟨hp _ _ _ h,fun e=>fin _ _ (e▸h),fun j hj o e hb=> ?_⟩;obtain⟨h1,h2⟩:=step rem val H j o h hj e hb;refine⟨h1,uN (fun r H' ⟨val',g1,g2,g3⟩=>⟨val',g1,g2,ih _ _ _ ?_ g3⟩) h2⟩
    have:(rem.filter (·!=j)).length<rem.length:=by
      rw [List.length_filter_lt_length_iff_exists];exact⟨j,hj,by simp⟩
    omega
theorem aaU {ms:List Nat} {pr:List (aQ×Bool)} {post:List aQ} (h: ∃val:Nat->PV,yF P ms pr (fun σ H=>WO P post s Q σ H) σ (AP pr).length (AP pr) val H):WS P (.QM ms pr post) s Q σ H:=h
end
end Go.VL
end
section
namespace Go.VL
open Go.Proofs Go.RowKit
theorem Wh {G:Gh} {m:Nat} {v:Value} (h:V G m (.aB [] .nil) v):v= .slice none 0 0:=by
  generalize hp:PV.aB [] .nil=p at h;cases h with
  |aB es c sz ad cap f h1 h2 h3 h4 h5=>
    cases hp;have q1:=h5.1;have q2:=h5.2.2;rw [q1,q2];rfl
  |_=>cases hp
theorem Vs.ad8 {G:Gh} {m:Nat} {n:Int} {vs:Array Value} (h:Vs G m [.aB [] .nil,.int .i64 n] vs):vs=#[.slice none 0 0,.int .i64 n]:=by
  obtain⟨h1,h2⟩:=h
  match vs,h1,h2 with
  |⟨[v,u]⟩,_,h2=>
    have e1:=h2 0 (.aB [] .nil) v rfl rfl;have e2:=h2 1 (.int .i64 n) u rfl rfl;cases e2;have e3:=Wh e1;rw [e3]
theorem Wi (zs:Array Value) (k:Nat):(Builtin.zeroCells zs k).size=k*zs.size:=by simp [Builtin.zeroCells]
theorem ad9 (n:Int) (h:0<n/\n<=1000000):zK Tryz.prog 167 [.aB [] .nil,.int .i64 n] Operator.cells 7 []:=by
  intro H;refine⟨⟨_,Tryz.func167,rfl,by kernel_rfl⟩,fun B G w vs hU hM hv=> ?_⟩;obtain⟨n,rfl⟩: ∃k:Nat,n=k:=⟨n.toNat,by omega⟩;rw [Vs.ad8 hv];obtain⟨i0,hi0,hq⟩: ∃i0,Tryz.prog.info? (Tryz.growOp_ren.t 25)=some i0/\(i0.zero.map fun z=>z.cells.size)=some 7/\i0.size=7/\i0.bytes=64:=by
    have h:(Tryz.prog.info? (Tryz.growOp_ren.t 25)).map (fun i0=>((i0.zero.map fun z=>z.cells.size),i0.size,i0.bytes))=some (some 7,7,64):=by kernel_rfl
    cases hi:Tryz.prog.info? (Tryz.growOp_ren.t 25)with
    |none=>rw [hi]at h;cases h
    |some i0=>rw [hi]at h;simp only [Option.map_some,Option.some.injEq,Prod.mk.injEq]at h;exact⟨i0,rfl,h.1,h.2.1,h.2.2⟩
  obtain⟨hz,hs,hb⟩:=hq;obtain⟨z,hz0,hz1⟩:=Option.map_eq_some_iff.1 hz;have key:=Any8.slices_Grow_grow Tryz.growOp i0 z hi0 hz0 (by omega) none 0 0 n [] w (Nat.le_refl _) (by omega) (by rw [hb];omega) (by omega) (by simp) (fun _=>rfl) (fun a e=>by cases e);have hge:=grownCap_ge w (0+n) 0 (Tryz.growOp_ren.t 25);refine key.mono ?_;rintro e w' ⟨rfl,rfl⟩
  obtain⟨G',e1,e2,e3⟩:=HM.newObj (w:=w.drew) hU hM.drew (Tryz.growOp_ren.t 25) (Vs.LG (G:=G) H.next (grownCap w (0+n) 0 (Tryz.growOp_ren.t 25)*7) _ (by
    show((#[]:Array Value)++Builtin.zeroCells z.cells (0+n -0)++Builtin.zeroCells z.cells (grownCap w (0+n) 0 (Tryz.growOp_ren.t 25) -(0+n))).size=_
    rw [Array.size_append,Array.size_append,Wi,Wi,hz1];simp only [Array.size_empty];omega))
  refine⟨_,_,_,G',rfl,Tr.yE w _,e1,Nat.le_succ _,e2,.dh H.next 0 0 _ 7 _ (Nat.lt_succ_self _) e3,[H.next],.inr ⟨H.next,_,List.replicate (grownCap w (0+n) 0 (Tryz.growOp_ren.t 25)*7) .any,rfl,rfl,Nat.zero_le _,Nat.lt_succ_self _,?_,?_⟩,?_,(HF.refl _ _).new,fun c3 hc=>hc.new⟩
  · show(if H.next=H.next then some _ else _)=_
    rw [if_pos rfl];rfl
  · rw [List.length_replicate,List.length_nil,Nat.sub_zero]
  · intro i hi;rw [List.mem_singleton.1 hi];exact .inr (Nat.le_refl _)
end Go.VL
end
section
set_option maxHeartbeats 4000000
namespace Go.VL
open Go.Proofs
def vE:Nat->Int->Int->(List Operator)->(List Str)->Int->Int->Option (List Operator)
  |0,_,_,_,_,_,_=>none
  |k+1,gY,fB,BA,qY,bI,sF=>
    cond (decide (sF<bI)) (if 0<=sF then Option.bind (qY[sF.toNat]?) fun x3=>if(BA.length+1)*64<=1099511627776 then vE k gY fB (BA++[(Operator.mk x3 0 gY fB false 1 1)]) qY bI (IntKind.wrap .i64 (sF+1))else none else none) (some (BA))
def Jo:List Nat:=[7,9]++List.range' 12 12
theorem TA: ∀(k:Nat) (gY:Int) (fB:Int) (BA:List Operator) (qY:List Str) (bI:Int) (sF:Int) (wC:Ck) (aC σ:Nat->PV) (H0 H:AH) (f0:Fr Jo aC σ) (hf0:HF [] H0 H) (sl:σ 0=(.int .i64 gY)/\σ 1=(.int .i64 fB)/\σ 7=(.aB (BA.map Operator.cells) wC)/\σ 10=(.aB (qY.map aX) .unk)/\σ 11=(.int .i64 bI)/\σ 12=(.int .i64 sF)) (Yu:cB H wC) (o:List Operator) (h:vE k gY fB BA qY bI sF=some o) (Q:Post) (q0: ∀(p:List Operator) (c0:Ck) (σ':Nat->PV) (H':AH),o=p->Fr Jo aC σ'->HF [] H0 H'->(σ' 7=(.aB (p.map Operator.cells) c0))->Q (.exit 0) σ' H'),W Tryz.prog (.loop NI) Q σ H:=by
  intro k
  induction k with
  |zero=>intro gY fB BA qY bI sF wC aC σ H0 H f0 hf0 sl Yu o h Q q0;simp only [vE,reduceCtorEq]at h
  |succ k ih=>
    intro gY fB BA qY bI sF wC aC σ H0 H f0 hf0 sl Yu o h Q q0;obtain⟨s0,s1,s7,s10,s11,s12⟩:=sl;have hle0:=hf0.1;unfold vE at h;refine aV (fun K hK=>aD ?_);unfold NI;rcases av h with⟨e1,h⟩|⟨e1,h⟩
    ·obtain⟨e2,h⟩:=aO h;obtain⟨x3,e4,h⟩:=aj h;obtain⟨e9,h⟩:=aO h;try refine ah ?_
     refine ku (f:=Operator.cells) Operator.row BA ([(Operator.mk x3 0 gY fB false 1 1)]:List Operator) wC .exact au au fE (by first|exact e9|(simp only [List.length_cons,List.length_nil];exact e9)) (fun c5 H6 ok7 le afW rl8=> ?_);have afX:HF [] _ H6:=⟨le,fun i _ _=>afW i⟩;try simp only [AH.aI,AH.aJ,AH.aL,AH.aM]at le
     try refine ah ?_
     refine hK _ _ ?_;exact ih gY fB (BA++[(Operator.mk x3 0 gY fB false 1 1)]) qY bI (IntKind.wrap .i64 (sF+1)) c5 _ _ _ _ aN (by repeat (first|exact hf0|refine HF.new ?_|refine HF.eG ?_|refine HF.used ?_|refine HF.put (by first|(right;omega)|(left;simp only [List.mem_cons,true_or,or_true])) ?_|refine HF.via afX (by first|exact fun i hi=>absurd hi List.not_mem_nil|(intro i hi;simp only [List.mem_cons,List.not_mem_nil,or_false]at hi⊢;first|exact .inl hi|omega)) ?_)) au fE _ h _ q0
    ·obtain rfl:=ak h;try refine ah ?_
     exact q0 _ wC _ _ rfl aN (by repeat (first|exact hf0|refine HF.new ?_|refine HF.eG ?_|refine HF.used ?_|refine HF.put (by first|(right;omega)|(left;simp only [List.mem_cons,true_or,or_true])) ?_)) au
def vF (k:Nat) (gY:Int) (fB:Int) (Bb:List Str):Option (List Operator):=
  Option.bind (vE k gY fB ([]:List Operator) Bb (Bb.length:Int) 0) (fun kZ=>some kZ)
theorem xE {k:Nat} {gY:Int} {fB:Int} {Bb:List Str} {c2:Ck} {r:List Operator} (h:vF k gY fB Bb=some r):aF Tryz.prog 113 [(.int .i64 gY),(.int .i64 fB),(.aB (Bb.map aX) c2)] (.aB (r.map Operator.cells) .unk):=by
  refine aF.lw (.same (.same (.aB .nil))) (aF.aP (bg.mem (.cons (.int _ _) (.cons (.int _ _) (.cons (aU bN _) .nil)))) (aH aoP (by simp) (aD ?_)) (aU Operator.pu _));unfold vF at h;unfold ahi;try refine ah ?_
  obtain⟨o12,Pp,h⟩:=aj h;refine TA k gY fB ([]:List Operator) Bb (Bb.length:Int) 0 .nil _ _ _ _ (Fr.refl _ _) (HF.refl _ _) au fE _ Pp _ ?_
  ·rintro kZ c18 σ' H17 eo yh Yv qE;rw [eo]at h;have le:=Yv.1;try simp only [AH.aI,AH.aJ,AH.aL,AH.aM]at le
   obtain rfl:=ak h;try refine ah ?_
   exact(dN Operator.pu _ _)
def vG:Nat->Int->Int->Bool->(List Operator)->(List Str)->Int->Int->Option (List Operator)
  |0,_,_,_,_,_,_,_=>none
  |k+1,gY,fB,ng,BD,sF,kK,Gs=>
    cond (decide (Gs<kK)) (if 0<=Gs then Option.bind (sF[Gs.toNat]?) fun x3=>if(BD.length+1)*64<=1099511627776 then vG k gY fB ng (BD++[(Operator.mk x3 1 gY fB ng 2 2)]) sF kK (IntKind.wrap .i64 (Gs+1))else none else none) (some (BD))
def Jp:List Nat:=[9,11]++List.range' 14 13
theorem TB: ∀(k:Nat) (gY:Int) (fB:Int) (ng:Bool) (BD:List Operator) (sF:List Str) (kK:Int) (Gs:Int) (wD:Ck) (aC σ:Nat->PV) (H0 H:AH) (f0:Fr Jp aC σ) (hf0:HF [] H0 H) (sl:σ 0=(.int .i64 gY)/\σ 1=(.int .i64 fB)/\σ 2=(.bool ng)/\σ 9=(.aB (BD.map Operator.cells) wD)/\σ 12=(.aB (sF.map aX) .unk)/\σ 13=(.int .i64 kK)/\σ 14=(.int .i64 Gs)) (Yw:cB H wD) (o:List Operator) (h:vG k gY fB ng BD sF kK Gs=some o) (Q:Post) (q0: ∀(p:List Operator) (c0:Ck) (σ':Nat->PV) (H':AH),o=p->Fr Jp aC σ'->HF [] H0 H'->(σ' 9=(.aB (p.map Operator.cells) c0))->Q (.exit 0) σ' H'),W Tryz.prog (.loop NJ) Q σ H:=by
  intro k
  induction k with
  |zero=>intro gY fB ng BD sF kK Gs wD aC σ H0 H f0 hf0 sl Yw o h Q q0;simp only [vG,reduceCtorEq]at h
  |succ k ih=>
    intro gY fB ng BD sF kK Gs wD aC σ H0 H f0 hf0 sl Yw o h Q q0;obtain⟨s0,s1,s2,s9,s12,s13,MN⟩:=sl;have hle0:=hf0.1;unfold vG at h;refine aV (fun K hK=>aD ?_);unfold NJ;rcases av h with⟨e1,h⟩|⟨e1,h⟩
    ·obtain⟨e2,h⟩:=aO h;obtain⟨x3,e4,h⟩:=aj h;obtain⟨e9,h⟩:=aO h;try refine ah ?_
     refine ku (f:=Operator.cells) Operator.row BD ([(Operator.mk x3 1 gY fB ng 2 2)]:List Operator) wD .exact au au fE (by first|exact e9|(simp only [List.length_cons,List.length_nil];exact e9)) (fun c5 H6 ok7 le afW rl8=> ?_);have afX:HF [] _ H6:=⟨le,fun i _ _=>afW i⟩;try simp only [AH.aI,AH.aJ,AH.aL,AH.aM]at le
     try refine ah ?_
     refine hK _ _ ?_;exact ih gY fB ng (BD++[(Operator.mk x3 1 gY fB ng 2 2)]) sF kK (IntKind.wrap .i64 (Gs+1)) c5 _ _ _ _ aN (by repeat (first|exact hf0|refine HF.new ?_|refine HF.eG ?_|refine HF.used ?_|refine HF.put (by first|(right;omega)|(left;simp only [List.mem_cons,true_or,or_true])) ?_|refine HF.via afX (by first|exact fun i hi=>absurd hi List.not_mem_nil|(intro i hi;simp only [List.mem_cons,List.not_mem_nil,or_false]at hi⊢;first|exact .inl hi|omega)) ?_)) au fE _ h _ q0
    ·obtain rfl:=ak h;try refine ah ?_
     exact q0 _ wD _ _ rfl aN (by repeat (first|exact hf0|refine HF.new ?_|refine HF.eG ?_|refine HF.used ?_|refine HF.put (by first|(right;omega)|(left;simp only [List.mem_cons,true_or,or_true])) ?_)) au
def fT (k:Nat) (gY:Int) (fB:Int) (ng:Bool) (Bc:List Str):Option (List Operator):=
  Option.bind (vG k gY fB ng ([]:List Operator) Bc (Bc.length:Int) 0) (fun kZ=>some kZ)
theorem eZ {k:Nat} {gY:Int} {fB:Int} {ng:Bool} {Bc:List Str} {c3:Ck} {r:List Operator} (h:fT k gY fB ng Bc=some r):aF Tryz.prog 114 [(.int .i64 gY),(.int .i64 fB),(.bool ng),(.aB (Bc.map aX) c3)] (.aB (r.map Operator.cells) .unk):=by
  refine aF.lw (.same (.same (.same (.aB .nil)))) (aF.aP (bg.mem (.cons (.int _ _) (.cons (.int _ _) (.cons (.bool _) (.cons (aU bN _) .nil))))) (aH ahk (by simp) (aD ?_)) (aU Operator.pu _));unfold fT at h;unfold ahj;try refine ah ?_
  obtain⟨o12,Pp,h⟩:=aj h;refine TB k gY fB ng ([]:List Operator) Bc (Bc.length:Int) 0 .nil _ _ _ _ (Fr.refl _ _) (HF.refl _ _) au fE _ Pp _ ?_
  ·rintro kZ c18 σ' H17 eo yh Yv qE;rw [eo]at h;have le:=Yv.1;try simp only [AH.aI,AH.aJ,AH.aL,AH.aM]at le
   obtain rfl:=ak h;try refine ah ?_
   exact(dN Operator.pu _ _)
def pV:Nat->Int->(List (List Operator))->Int->Option Int
  |0,_,_,_=>none
  |k+1,kW,u7,bI=>
    cond (decide (bI<24)) (if 0<=bI then Option.bind (u7[bI.toNat]?) fun x50=>cond (decide ((IntKind.wrap .i64 (kW+(x50.length:Int)))<0)) (none) (pV k (IntKind.wrap .i64 (kW+(x50.length:Int))) u7 (IntKind.wrap .i64 (bI+1)))else none) (some (kW))
def Et:List Nat:=[3,5]++List.range' 11 12
theorem Mq: ∀(k:Nat) (kW:Int) (u7:List (List Operator)) (bI:Int) (sG:Ck) (aC σ:Nat->PV) (H:AH) (f0:Fr Et aC σ) (sl:σ 3=(.int .i64 kW)/\σ 9=(.aB (u7.map (y5 Operator.cells)) sG)/\σ 10=(.int .i64 24)/\σ 11=(.int .i64 bI)) (o:Int) (h:pV k kW u7 bI=some o) (Q:Post) (q0: ∀(p:Int) (σ':Nat->PV),o=p->Fr Et aC σ'->(σ' 3=(.int .i64 p))->Q (.exit 0) σ' H),W Tryz.prog (.loop NM) Q σ H:=by
  intro k
  induction k with
  |zero=>intro kW u7 bI sG aC σ H f0 sl o h Q q0;simp only [pV,reduceCtorEq]at h
  |succ k ih=>
    intro kW u7 bI sG aC σ H f0 sl o h Q q0;obtain⟨s3,s9,s10,s11⟩:=sl;unfold pV at h;refine aV (fun K hK=>aD ?_);unfold NM;rcases av h with⟨e48,h⟩|⟨e48,h⟩
    ·obtain⟨e49,h⟩:=aO h;obtain⟨x50,e51,h⟩:=aj h;rcases av h with⟨e52,h⟩|⟨e52,h⟩
     ·cases h
     ·try refine bK ?_
      refine hK _ _ ?_;exact ih (IntKind.wrap .i64 (kW+(x50.length:Int))) u7 (IntKind.wrap .i64 (bI+1)) sG _ _ _ aN aZ _ h _ q0
    ·obtain rfl:=ak h;try refine bK ?_
     exact q0 _ _ rfl aN aZ
def pW:Nat->(List Operator)->(List (List Operator))->Int->Option (List Operator)
  |0,_,_,_=>none
  |k+1,eu,fV,dQ=>
    cond (decide (dQ<24)) (if 0<=dQ then Option.bind (fV[dQ.toNat]?) fun x71=>if 0<x71.length/\(eu.length+x71.length)*64<=1099511627776 then pW k (eu++x71) fV (IntKind.wrap .i64 (dQ+1))else none else none) (some (eu))
def Eu:List Nat:=[6,8]++List.range' 27 8
theorem Mr: ∀(k:Nat) (iC:PV) (iD:List Nat) (M:List Nat) (eu:List Operator) (fV:List (List Operator)) (dQ:Int) (pX:Ck) (aC σ:Nat->PV) (H0 H:AH) (f0:Fr Eu aC σ) (hf0:HF M H0 H) (sl:σ 6=iC/\σ 25=(.aB (fV.map (y5 Operator.cells)) pX)/\σ 26=(.int .i64 24)/\σ 27=(.int .i64 dQ)) (iE:aK H Operator.cells 7 eu iC iD) (iQ:Nw H0 M iD) (o:List Operator) (h:pW k eu fV dQ=some o) (Q:Post) (q0: ∀(p:List Operator) (v0:PV) (oQ:List Nat) (σ':Nat->PV) (H':AH),o=p->Fr Eu aC σ'->HF M H0 H'->(σ' 6=v0)->aK H' Operator.cells 7 p v0 oQ->Nw H0 M oQ->Q (.exit 2) σ' H'),W Tryz.prog (.loop NP) Q σ H:=by
  intro k
  induction k with
  |zero=>intro iC iD M eu fV dQ pX aC σ H0 H f0 hf0 sl iE iQ o h Q q0;simp only [pW,reduceCtorEq]at h
  |succ k ih=>
    intro iC iD M eu fV dQ pX aC σ H0 H f0 hf0 sl iE iQ o h Q q0;obtain⟨s6,uD,uS,wT⟩:=sl;have hle0:=hf0.1;unfold pW at h;refine aV (fun K hK=>aD ?_);unfold NP;rcases av h with⟨e69,h⟩|⟨e69,h⟩
    ·obtain⟨e70,h⟩:=aO h;obtain⟨x71,e72,h⟩:=aj h;obtain⟨Pq,h⟩:=aO h;try refine bK ?_
     refine BX (f:=Operator.cells) (v:=iC) Operator.row eu (x71:List Operator) .unk aZ (by repeat (first|exact iE|apply aK.new|refine aK.put ?_ (fun hm=>by have:=aK.lt iE _ hm;omega))) aZ Pq.1 Pq.2 (fun v74 aps H76 r77 asI amY afB=> ?_);have le:=amY.1;try simp only [AH.aI,AH.aJ,AH.aL,AH.aM]at le
     try refine bK ?_
     refine hK _ _ ?_;exact ih v74 aps M (eu++x71) fV (IntKind.wrap .i64 (dQ+1)) pX _ _ _ _ aN (by repeat (first|exact hf0|refine HF.new ?_|refine HF.eG ?_|refine HF.used ?_|refine HF.put (by first|(right;omega)|(left;simp only [List.mem_cons,true_or,or_true])) ?_|refine HF.via amY iQ ?_)) aZ (by repeat (first|exact r77|apply aK.new|refine aK.put ?_ (fun hm=>by have:=aK.lt r77 _ hm;omega))) (Nw.trans iQ bO asI) _ h _ q0
    ·obtain rfl:=ak h;try refine bK ?_
     exact q0 _ iC iD _ _ rfl aN (by repeat (first|exact hf0|refine HF.new ?_|refine HF.eG ?_|refine HF.used ?_|refine HF.put (by first|(right;omega)|(left;simp only [List.mem_cons,true_or,or_true])) ?_)) aZ (by repeat (first|exact iE|apply aK.new|refine aK.put ?_ (fun hm=>by have:=aK.lt iE _ hm;omega))) iQ
def wE:Nat->(List Operator)->Int->Int->Option (List Operator)
  |0,_,_,_=>none
  |k+1,lG,Gt,lC=>
    cond (decide (lC<Gt)) (if 0<=lC then Option.bind (lG[lC.toNat]?) fun x95=>cond (x95.text==([92,88]:Str)) (wE k (lG.set lC.toNat (Operator.mk x95.text x95.fix x95.low x95.high x95.left x95.least 4)) Gt (IntKind.wrap .i64 (lC+1))) (wE k lG Gt (IntKind.wrap .i64 (lC+1)))else none) (some (lG))
def M7:List Nat:=[4]++List.range' 80 14
theorem Yx: ∀(k:Nat) (yL:PV) (vH:List Nat) (M:List Nat) (lG:List Operator) (Gt:Int) (lC:Int) (aC σ:Nat->PV) (H0 H:AH) (f0:Fr M7 aC σ) (hf0:HF M H0 H) (sl:σ 3=yL/\σ 79=(.int .i64 Gt)/\σ 80=(.int .i64 lC)) (wF:aK H Operator.cells 7 lG yL vH) (Bd:Nw H0 M vH) (o:List Operator) (h:wE k lG Gt lC=some o) (Q:Post) (q0: ∀(p:List Operator) (v0:PV) (oQ:List Nat) (σ':Nat->PV) (H':AH),o=p->Fr M7 aC σ'->HF M H0 H'->(σ' 3=v0)->aK H' Operator.cells 7 p v0 oQ->Nw H0 M oQ->Q (.exit 0) σ' H'),W Tryz.prog (.loop RY) Q σ H:=by
  intro k
  induction k with
  |zero=>intro yL vH M lG Gt lC aC σ H0 H f0 hf0 sl wF Bd o h Q q0;simp only [wE,reduceCtorEq]at h
  |succ k ih=>
    intro yL vH M lG Gt lC aC σ H0 H f0 hf0 sl wF Bd o h Q q0;obtain⟨s3,s79,s80⟩:=sl;have hle0:=hf0.1;unfold wE at h;refine aV (fun K hK=>aD ?_);unfold RY;rcases av h with⟨Kn,h⟩|⟨Kn,h⟩
    ·obtain⟨e94,h⟩:=aO h;obtain⟨x95,UG,h⟩:=aj h;obtain⟨w97,PL,amZ,hil,w99,hC,hL,hD,hI⟩:=aK.content wF UG;have axk:=ne_next hil;have axl:=aS hil;have axn:jG 7 yL (.int .i64 lC)=some (.ref w97 (lC.toNat*7)):=by simpa using hI .i64 lC (by first|omega|decide) (by first|rfl|omega)
     have av9:PL[lC.toNat*7]? =some (.str x95.text):=by simpa using hC 0 _ rfl
     have awc:PL[lC.toNat*7+1]? =some (.int .i64 x95.fix):=by simpa using hC 1 _ rfl
     have awd:PL[lC.toNat*7+2]? =some (.int .i64 x95.low):=by simpa using hC 2 _ rfl
     have awe:PL[lC.toNat*7+3]? =some (.int .i64 x95.high):=by simpa using hC 3 _ rfl
     have awf:PL[lC.toNat*7+4]? =some (.bool x95.left):=by simpa using hC 4 _ rfl
     have awg:PL[lC.toNat*7+5]? =some (.int .i64 x95.least):=by simpa using hC 5 _ rfl
     have awh:PL[lC.toNat*7+6]? =some (.int .i64 x95.most):=by simpa using hC 6 _ rfl
     have axo:lC.toNat*7+7<=PL.length:=by simpa using hL 7 (Nat.le_refl _)
     have axp:List.take 7 (List.drop (lC.toNat*7) PL)=Operator.cells x95:=hD;clear hC hL hD hI;rcases av h with⟨IC,h⟩|⟨IC,h⟩
     ·try refine bK ?_
      refine nK (f:=Operator.cells) (id:=w97) (o:=lC.toNat*7+6) (i:=lC.toNat) (j:=6) (a:=x95) (y:=(Operator.mk x95.text x95.fix x95.low x95.high x95.left x95.least 4)) (vs:=[(.int .i64 4)]) aZ amZ (by omega) (by repeat (first|exact wF|apply aK.new|refine aK.put ?_ (fun hm=>by have:=aK.lt wF _ hm;omega))) UG aZ rfl rfl (by first|decide|(simp only [List.length_cons,List.length_nil];omega)) rfl (fun axq am0 Wj ahf=> ?_);have le:=Wj.1;try simp only [AH.aI,AH.aJ,AH.aL,AH.aM]at le
      try refine bK ?_
      refine hK _ _ ?_;exact ih yL vH M (lG.set lC.toNat (Operator.mk x95.text x95.fix x95.low x95.high x95.left x95.least 4)) Gt (IntKind.wrap .i64 (lC+1)) _ _ _ _ aN (by repeat (first|exact hf0|refine HF.new ?_|refine HF.eG ?_|refine HF.used ?_|refine HF.put (by first|(right;omega)|(left;simp only [List.mem_cons,true_or,or_true])) ?_|refine HF.via Wj Bd ?_)) aZ (by repeat (first|exact am0|apply aK.new|refine aK.put ?_ (fun hm=>by have:=aK.lt am0 _ hm;omega))) Bd _ h _ q0
     ·try refine bK ?_
      refine hK _ _ ?_;exact ih yL vH M lG Gt (IntKind.wrap .i64 (lC+1)) _ _ _ _ aN (by repeat (first|exact hf0|refine HF.new ?_|refine HF.eG ?_|refine HF.used ?_|refine HF.put (by first|(right;omega)|(left;simp only [List.mem_cons,true_or,or_true])) ?_)) aZ (by repeat (first|exact wF|apply aK.new|refine aK.put ?_ (fun hm=>by have:=aK.lt wF _ hm;omega))) Bd _ h _ q0
    ·obtain rfl:=ak h;try refine bK ?_
     exact q0 _ yL vH _ _ rfl aN (by repeat (first|exact hf0|refine HF.new ?_|refine HF.eG ?_|refine HF.used ?_|refine HF.put (by first|(right;omega)|(left;simp only [List.mem_cons,true_or,or_true])) ?_)) aZ (by repeat (first|exact wF|apply aK.new|refine aK.put ?_ (fun hm=>by have:=aK.lt wF _ hm;omega))) Bd
def DU (k:Nat):Option (List Operator):=
  Option.bind (vF k 4 4 [([126]:Str)]) fun p2=>Option.bind (vF k 4 15 [([69,78,65,66,76,69,68]:Str),([85,78,67,72,65,78,71,69,68]:Str),([91,93]:Str),([60,62]:Str)]) fun p4=>Option.bind (vF k 8 8 [([83,85,66,83,69,84]:Str),([85,78,73,79,78]:Str)]) fun p6=>Option.bind (vF k 9 9 [([68,79,77,65,73,78]:Str)]) fun p8=>Option.bind (vF k 12 12 [([45,46]:Str)]) fun gT=>Option.bind (fT k 1 1 false [([61,62]:Str)]) fun mE=>Option.bind (fT k 2 2 false [([60,61,62]:Str),([126,62]:Str)]) fun kZ=>Option.bind (fT k 3 3 true [([47,92]:Str),([92,47]:Str)]) fun p16=>Option.bind (fT k 5 5 false [([61]:Str),([35]:Str),([60]:Str),([60,61]:Str),([62]:Str),([62,61]:Str),([92,105,110]:Str),([92,110,111,116,105,110]:Str),([92,115,117,98,115,101,116,101,113]:Str),([92,115,113,115,117,98,115,101,116,101,113]:Str)]) fun qQ=>Option.bind (fT k 6 6 true [([64,64]:Str)]) fun lI=>Option.bind (fT k 7 7 false [([58,62]:Str)]) fun Je=>Option.bind (fT k 5 14 true [([92,99,100,111,116]:Str)]) fun xq=>Option.bind (fT k 8 8 true [([92,99,117,112]:Str),([92,99,97,112]:Str)]) fun p26=>Option.bind (fT k 8 8 false [([92]:Str)]) fun p28=>Option.bind (fT k 9 9 false [([46,46]:Str)]) fun p30=>Option.bind (fT k 10 10 true [([43]:Str),([40,43,41]:Str)]) fun p32=>Option.bind (fT k 10 11 false [([37]:Str)]) fun p34=>Option.bind (fT k 10 13 false [([92,88]:Str)]) fun p36=>Option.bind (fT k 11 11 true [([45]:Str),([40,45,41]:Str)]) fun p38=>Option.bind (fT k 13 13 true [([42]:Str)]) fun p40=>Option.bind (fT k 13 13 false [([92,100,105,118]:Str)]) fun p42=>Option.bind (fT k 13 13 true [([92,111]:Str)]) fun p44=>Option.bind (fT k 14 14 false [([94]:Str)]) fun p46=>Option.bind (pV k 0 [p2,p4,p6,p8,gT,mE,kZ,p16,qQ,lI,Je,xq,p26,p28,p30,p32,p34,p36,p38,p40,p42,p44,p46,[(Operator.mk ([39]:Str) 2 15 15 false 1 1)]] 0) (fun p55=>if 0<p55/\p55<=1000000 then Option.bind (pW k ([]:List Operator) [p2,p4,p6,p8,gT,mE,kZ,p16,qQ,lI,Je,xq,p26,p28,p30,p32,p34,p36,p38,p40,p42,p44,p46,[(Operator.mk ([39]:Str) 2 15 15 false 1 1)]] 0) (fun p83=>Option.bind (wE k p83 (p83.length:Int) 0) (fun am1=>some am1))else none)
theorem aec {k:Nat} {r:List Operator} (h:DU k=some r):aF Tryz.prog 65 [] (.aB (r.map Operator.cells) .unk):=by
  refine aF.aP (bg.mem .nil) (aH arK (by simp) (aD ?_)) (aU Operator.pu _);unfold DU at h;unfold alq;obtain⟨p2,e1,h⟩:=aj h;try refine bK ?_
  refine aA (xE e1) ?_;obtain⟨p4,e3,h⟩:=aj h;try refine bK ?_
  refine aA (xE e3) ?_;obtain⟨p6,e5,h⟩:=aj h;try refine bK ?_
  refine aA (xE e5) ?_;obtain⟨p8,e7,h⟩:=aj h;try refine bK ?_
  refine aA (xE e7) ?_;obtain⟨gT,e9,h⟩:=aj h;try refine bK ?_
  refine aA (xE e9) ?_;obtain⟨mE,e11,h⟩:=aj h;try refine bK ?_
  refine aA (eZ e11) ?_;obtain⟨kZ,e13,h⟩:=aj h;try refine bK ?_
  refine aA (eZ e13) ?_;obtain⟨p16,e15,h⟩:=aj h;try refine bK ?_
  refine aA (eZ e15) ?_;obtain⟨qQ,e17,h⟩:=aj h;try refine bK ?_
  refine aA (eZ e17) ?_;obtain⟨lI,e19,h⟩:=aj h;try refine bK ?_
  refine aA (eZ e19) ?_;obtain⟨Je,e21,h⟩:=aj h;try refine bK ?_
  refine aA (eZ e21) ?_;obtain⟨xq,e23,h⟩:=aj h;try refine bK ?_
  refine aA (eZ e23) ?_;obtain⟨p26,e25,h⟩:=aj h;try refine bK ?_
  refine aA (eZ e25) ?_;obtain⟨p28,e27,h⟩:=aj h;try refine bK ?_
  refine aA (eZ e27) ?_;obtain⟨p30,e29,h⟩:=aj h;try refine bK ?_
  refine aA (eZ e29) ?_;obtain⟨p32,e31,h⟩:=aj h;try refine bK ?_
  refine aA (eZ e31) ?_;obtain⟨p34,e33,h⟩:=aj h;try refine bK ?_
  refine aA (eZ e33) ?_;obtain⟨p36,e35,h⟩:=aj h;try refine bK ?_
  refine aA (eZ e35) ?_;obtain⟨p38,e37,h⟩:=aj h;try refine bK ?_
  refine aA (eZ e37) ?_;obtain⟨p40,e39,h⟩:=aj h;try refine bK ?_
  refine aA (eZ e39) ?_;obtain⟨p42,e41,h⟩:=aj h;try refine bK ?_
  refine aA (eZ e41) ?_;obtain⟨p44,e43,h⟩:=aj h;try refine bK ?_
  refine aA (eZ e43) ?_;obtain⟨p46,e45,h⟩:=aj h;try refine bK ?_
  refine aA (eZ e45) ?_;try refine bK ?_
  refine aH aoQ (by simp) (aD ?_);unfold ahl;try refine bK ?_
  obtain⟨o53,h54,h⟩:=aj h;refine Mq k 0 [p2,p4,p6,p8,gT,mE,kZ,p16,qQ,lI,Je,xq,p26,p28,p30,p32,p34,p36,p38,p40,p42,p44,p46,[(Operator.mk ([39]:Str) 2 15 15 false 1 1)]] 0 .exact _ _ _ (Fr.refl _ _) aZ _ h54 _ ?_
  ·rintro p55 σ' eo alZ s59;rw [eo]at h;have s60:σ' 0=(.aB ([p2,p4,p6,p8,gT,mE,kZ,p16,qQ,lI,Je,xq,p26,p28,p30,p32,p34,p36,p38,p40,p42,p44,p46,[(Operator.mk ([39]:Str) 2 15 15 false 1 1)]].map (y5 Operator.cells)) .exact):=(alZ 0 (by decide)).trans aZ;obtain⟨e61,h⟩:=aO h;try refine bK ?_
   refine He (f:=Operator.cells) (xs:=([]:List Operator)) (ad9 p55 e61) (fun v62 ah6 H64 r65 axr asJ afz=> ?_);have le:=asJ.1;try simp only [AH.aI,AH.aJ,AH.aL,AH.aM]at le
   try refine bK ?_
   obtain⟨o81,h82,h⟩:=aj h;refine Mr k v62 ah6 (ah6++[]) ([]:List Operator) [p2,p4,p6,p8,gT,mE,kZ,p16,qQ,lI,Je,xq,p26,p28,p30,p32,p34,p36,p38,p40,p42,p44,p46,[(Operator.mk ([39]:Str) 2 15 15 false 1 1)]] 0 .exact _ _ _ _ (Fr.refl _ _) (HF.refl _ _) aZ (by repeat (first|exact r65|apply aK.new|refine aK.put ?_ (fun hm=>by have:=aK.lt r65 _ hm;omega))) (fun i hi=>Or.inl (by simp only [List.mem_append,List.mem_cons,hi,true_or,or_true])) _ h82 _ ?_
   ·rintro p83 v87 ah7 σ' H86 eo axt asK s91 r89 axu;rw [eo]at h;have le:=asK.1;try simp only [AH.aI,AH.aJ,AH.aL,AH.aM]at le
    have w92:=aK.Ym r89;try refine bK ?_
    obtain⟨o111,h112,h⟩:=aj h;refine Yx k v87 ah7 (ah7++[]) p83 (p83.length:Int) 0 _ _ _ _ (Fr.refl _ _) (HF.refl _ _) aZ (by repeat (first|exact r89|apply aK.new|refine aK.put ?_ (fun hm=>by have:=aK.lt r89 _ hm;omega))) (fun i hi=>Or.inl (by simp only [List.mem_append,List.mem_cons,hi,true_or,or_true])) _ h112 _ ?_
    ·rintro am1 v117 avc σ' asH eo awi apt axv am3 awj;rw [eo]at h;have le:=apt.1;try simp only [AH.aI,AH.aJ,AH.aL,AH.aM]at le
     obtain rfl:=ak h;try refine bK ?_
     exact(aK.fz Operator.pu (by repeat (first|exact am3|apply aK.new|refine aK.put ?_ (fun hm=>by have:=aK.lt am3 _ hm;omega))))
end Go.VL
end
section
namespace Go.VL
open Go.Proofs Go.RowKit
def mU:List Operator:=(DU 100).getD []
theorem aed:DU 100=some mU:=by
  have h:(DU 100).isSome=true:=by kernel_rfl
  rw [mU];cases h1:DU 100 with
  |none=>rw [h1]at h;cases h
  |some r=>rfl
theorem am4:aF Tryz.prog 65 [] (.aB (mU.map Operator.cells) .unk):=aec aed
end Go.VL
end
section
set_option maxHeartbeats 4000000
namespace Go.VL
open Go.Proofs
def jV (k:Nat) (iY:Str):Option (Operator×Bool):=
  Option.bind (eO k mU iY) fun p2=>cond (decide (p2<0)) (some ((Operator.mk [] 0 0 0 false 0 0),false)) (if 0<=p2 then Option.bind (mU[p2.toNat]?) fun x5=>some (x5,true)else none)
theorem nS {k:Nat} {iY:Str} {r:Operator×Bool} (h:jV k iY=some r):aF Tryz.prog 63 [(.str iY)] (.dw [(.agg (Operator.cells r.1)),(.bool r.2)]):=by
  refine aF.aP (bg.mem (.cons (.str _) .nil)) (aH arI (by simp) (aD ?_)) (.dw _ (bg.mem (.cons (.agg _ (Operator.pu _)) (.cons (.bool _) .nil))));unfold jV at h;unfold alo;try refine ah ?_
  refine aA (am4) ?_;obtain⟨p2,e1,h⟩:=aj h;try refine ah ?_
  refine Fq (pU e1) (.cons (dN Operator.pu _ _) (.cons (aoz (.cons (aki au (.cons (.pure _ (.str _)) .nil)) .nil)) .nil)) (.cons (aU Operator.pu _) (.cons (.fn _ _ _ (bg.mem .nil) (bg.mem (.cons (.d9 _ _ (bg.mem (.cons (.str _) .nil))) .nil))) .nil)) (.int _ _) ?_;rcases av h with⟨e3,h⟩|⟨e3,h⟩
  ·obtain rfl:=ak h;try refine ah ?_
   exact(bR (.cons (dG (.cons (.pure _ (.str _)) (.cons (.pure _ (.int _ _)) (.cons (.pure _ (.int _ _)) (.cons (.pure _ (.int _ _)) (.cons (.pure _ (.bool _)) (.cons (.pure _ (.int _ _)) (.cons (.pure _ (.int _ _)) .nil)))))))) (.cons (.pure _ (.bool _)) .nil)))
  ·obtain⟨e4,h⟩:=aO h;obtain⟨x5,e6,h⟩:=aj h;obtain rfl:=ak h;try refine ah ?_
   exact(bR (.cons (dG (.cons (.pure _ (.str _)) (.cons (.pure _ (.int _ _)) (.cons (.pure _ (.int _ _)) (.cons (.pure _ (.int _ _)) (.cons (.pure _ (.bool _)) (.cons (.pure _ (.int _ _)) (.cons (.pure _ (.int _ _)) .nil)))))))) (.cons (.pure _ (.bool _)) .nil)))
def Wm (x_0:Int) (y_1:Int):Option (Int×Int):=
  if(0<=x_0/\x_0<18446744073709551616)/\(0<=y_1/\y_1<18446744073709551616)then some ((PI x_0 y_1).1,(PI x_0 y_1).2)else none
theorem ajp {x_0:Int} {y_1:Int} {r:Int×Int} (h:Wm x_0 y_1=some r):aF Tryz.prog 147 [(.int .u64 x_0),(.int .u64 y_1)] (.dw [(.int .u64 r.1),(.int .u64 r.2)]):=by
  refine aF.aP (bg.mem (.cons (.int _ _) (.cons (.int _ _) .nil))) (aH ao6 (by simp) (aD ?_)) (.dw _ (bg.mem (.cons (.int _ _) (.cons (.int _ _) .nil))));unfold Wm at h;unfold ahD;obtain⟨e1,h⟩:=aO h;try refine ah ?_
  refine aA (ajk x_0 y_1 (by assumption)) ?_;obtain rfl:=ak h;try refine ah ?_
  exact(bR (.cons (.pure _ (.int _ _)) (.cons (.pure _ (.int _ _)) .nil)))
end Go.VL
end
section
namespace Go.VL
open Go.Proofs Go.RowKit
theorem vI {P:Program} {K:(Nat->PV)->AH->Prop} {σ:Nat->PV} {H:AH} {d:Option Nat} {k:RK} {l:List (aQ×Bool)} (p:PV) (h: ∀H',rop k σ H'=some p)
    (hn:iK P (fun _=>True) l K (upd σ d p) H):iK P (fun _=>True) ((⟨d,.r k,none⟩,false)::l) K σ H:=by
  unfold iK;refine .inr ⟨trivial,p,fun H' _=> ?_,hn⟩;show(match rop k σ H' with|some q=>(q=p/\H'=H')|none=>False)
  rw [h H'];exact⟨rfl,rfl⟩
theorem Yy: ∀l:List PV,(l.map fun c=>[c]).flatten=l
  |[]=>rfl
  |a::l=>by rw [List.map_cons,List.flatten_cons,Yy l];rfl
theorem ach (l rest:List PV):chunks 1 l.length (l++rest)=l.map fun c=>[c]:=by
  have h:=zJ (sz:=1) (l.map fun c=>[c]) rest (by simp);rw [List.length_map,Yy]at h;exact h
theorem FK (x:PV): ∀m,(List.replicate m [x]).flatten=List.replicate m x
  |0=>rfl
  |m+1=>by rw [List.replicate_succ,List.flatten_cons,FK x m];rfl
theorem am5 (x:Int) (id n:Nat) (H0:AH) (Q:Post) (hn:n<=1000000)
    (hx: ∀σ' H',σ' 7= .dh id 0 n n 1->H'.obj id=some (List.replicate n (.int .i64 x))->H'.next=H0.next->(∀i,i≠id->H'.obj i=H0.obj i)->(∀k,H'.live k=H0.live k)->Q (.exit 0) σ' H'):
    ∀(d m:Nat) (σ:Nat->PV) (H:AH) (rest:List PV),n -m<=d->m<=n->(m=0->n=0)->σ 7= .dh id 0 n n 1->σ 8= .int .i64 m->H.obj id=some (List.replicate m (.int .i64 x)++rest)->rest.length=n -m->
      H.next=H0.next->(∀i,i≠id->H.obj i=H0.obj i)->(∀k,H.live k=H0.live k)->W Tryz.prog (.loop LK) Q σ H:=by
  intro d
  induction d with
  |zero=>
    intro m σ H rest hd hm h0 h7 h8 ho hr h1 h2 h3;have e:m=n:=by omega
    subst e;have c1:decide ((m:Int)<(m:Int))=false:=decide_eq_false (by omega);refine aV (fun K hK=>aD ?_);unfold LK;simp -implicitDefEqProofs only [go_sem,h7,h8,c1];have hr0:rest=[]:=List.eq_nil_of_length_eq_zero (by omega);subst hr0;refine hx _ _ ?_ (by rw [ho,List.append_nil]) h1 h2 h3;simp only [yc,Nat.reduceEqDiff,↓reduceIte,h7]
  |succ d ih=>
    intro m σ H rest hd hm h0 h7 h8 ho hr h1 h2 h3;by_cases hmn:m=n
    · exact ih m σ H rest (by omega) hm h0 h7 h8 ho hr h1 h2 h3
    have c1:decide ((m:Int)<(n:Int))=true:=decide_eq_true (by omega);refine aV (fun K hK=>aD ?_);unfold LK;simp -implicitDefEqProofs only [go_sem,h7,h8,c1];refine⟨fun _=>True,trivial,?_⟩;refine vI (.int .i64 m) (fun H'=>by simp [rop,AE.ev,upd,h7,h8]) ?_;refine vI (.dh id 0 n n 1) (fun H'=>by simp [rop,AE.ev,upd,h7,h8]) ?_;refine vI (.int .i64 m) (fun H'=>by simp [rop,AE.ev,upd,h7,h8]) ?_;refine vI (.dh id m (n -m) (n -m) 1) (fun H'=>by simp [rop,AE.ev,upd,vY,oJ,h7,h8];omega) ?_;refine vI (.dh id 0 n n 1) (fun H'=>by simp [rop,AE.ev,upd,h7,h8]) ?_;refine vI (.int .i64 m) (fun H'=>by simp [rop,AE.ev,upd,h7,h8]) ?_;refine vI (.dh id 0 m n 1) (fun H'=>by simp [rop,AE.ev,upd,vY,oJ,h7,h8];omega) ?_;have hch:chunks 1 m (List.replicate m (.int .i64 x)++rest)=List.replicate m [.int .i64 x]:=by
      have h:=ach (List.replicate m (.int .i64 x)) rest;rw [List.length_replicate,List.map_replicate]at h;exact h
    unfold iK;refine .inr ⟨trivial,.int .i64 (min m (n -m):Nat),H.put id (List.replicate (m+min m (n -m)) (.int .i64 x)++rest.drop (min m (n -m))),?_,trivial,?_⟩
    · have hy:rowOf 1 H (PV.dh id 0 m n 1)=some (List.replicate m [.int .i64 x]):=by
        have hl:0+m*1<=(List.replicate m (PV.int .i64 x)++rest).length:=by rw [List.length_append,List.length_replicate];omega
        simp only [rowOf,ho];rw [if_pos ⟨trivial,hl⟩,List.drop_zero,hch]
      have hsz:qx 1 (List.replicate m [PV.int .i64 x]):=fun cs hcs=>by
        rw [(List.mem_replicate.1 hcs).2];exact⟨rfl,fun c hc=>by rw [List.mem_singleton.1 hc];rfl⟩
      have hle:m+(n -m)*1<=(List.replicate m (PV.int .i64 x)++rest).length:=by rw [List.length_append,List.length_replicate];omega
      have hput:putCells (List.replicate m (PV.int .i64 x)++rest) m ((List.replicate m [PV.int .i64 x]).take (n -m)).flatten=List.replicate (m+min m (n -m)) (.int .i64 x)++rest.drop (min m (n -m)):=by
        rw [List.take_replicate,FK];unfold putCells;rw [List.length_replicate];have e1:(List.replicate m (PV.int .i64 x)++rest).take m=List.replicate m (PV.int .i64 x):=by
          rw [List.take_append_of_le_length (by rw [List.length_replicate];omega),List.take_of_length_le (by rw [List.length_replicate];omega)]
        have e2:(List.replicate m (PV.int .i64 x)++rest).drop (m+min (n -m) m)=rest.drop (min m (n -m)):=by
          rw [List.drop_append,List.length_replicate,List.drop_eq_nil_of_le (by rw [List.length_replicate];omega),List.nil_append];congr 1
          omega
        rw [e1,e2,List.replicate_append_replicate,Nat.min_comm m]
      simp only [iN,nop,AE.ev,yc,Nat.reduceEqDiff,↓reduceIte,hy];simp only [ho];rw [if_pos ⟨trivial,hsz,hle⟩];refine⟨?_,by rw [hput]⟩;rw [List.length_replicate]
    · have hm2:(m:Int)+((min m (n -m):Nat):Int)=((m+min m (n -m):Nat):Int):=by omega
      have hw:IntKind.wrap .i64 ((m:Int)+((min m (n -m):Nat):Int))=((m+min m (n -m):Nat):Int):=by
        rw [hm2];exact IntWalk.i64_in _ (by omega)
      unfold iK;refine dx ?_;simp -implicitDefEqProofs only [go_sem,h7,h8,hw];refine hK _ _ (ih (m+min m (n -m)) _ _ (rest.drop (min m (n -m))) (by omega) (by omega) (by omega) ?_ ?_ ?_ (by rw [List.length_drop];omega) h1 ?_ h3)
      · simp only [yc,Nat.reduceEqDiff,↓reduceIte,h7]
      · simp only [yc,Nat.reduceEqDiff,↓reduceIte]
      · show(if id=id then some _ else _)=_
        rw [if_pos rfl]
      · intro i hi;show(if i=id then some _ else _)=_
        rw [if_neg hi];exact h2 i hi
section
variable {P:Program} {Q:Post} {σ:Nat->PV} {s:List Fm} {H:AH}
theorem am6 {d:Option Nat} {x y:AE} {l:List aQ} {k k':IntKind} {n:Nat} (hx:x.ev σ= .int k n) (hy:y.ev σ= .int k' n) (hb:n<=1000000)
    (h:WO P l s Q (upd σ d (.dh H.next 0 n n 1)) (H.new (List.replicate n (.int .i64 0)))):WO P (⟨d,.d (.wW 1 8 [.int .i64 0] x y),none⟩::l) s Q σ H:=by
  show WD P (kM (.wW 1 8 [.int .i64 0] x y) σ H) d l s Q σ
  simp only [kM,hx,hy];rw [if_pos ⟨by omega,by omega,by omega,by omega,rfl,by decide⟩];rw [Int.toNat_natCast,FK];exact h
theorem ajq {d:Option Nat} {x y:AE} {l:List aQ} {id off len cap sz:Nat} {fs:List (List PV)} {cs:List PV} (hx:x.ev σ= .dh id off len cap sz) (hy:rowOf sz H (y.ev σ)=some fs) (ho:H.obj id=some cs)
    (hsz:qx sz fs) (hle:off+len*sz<=cs.length)
    (h:WO P l s Q (upd σ d (.int .i64 (min fs.length len:Nat))) (H.put id (putCells cs off (fs.take len).flatten))):WO P (⟨d,.n (.copy sz x y),none⟩::l) s Q σ H:=by
  show cO P _ _ σ H
  rw [GJ];simp only [nop,hx,hy,ho];rw [if_pos ⟨trivial,hsz,hle⟩];exact h
end
theorem apu (x:Int) (n:Int) (hn:0<=n/\n<=1000000):zK Tryz.prog 94 [.aB [[.int .i64 x]] .exact,.int .i64 n] aY 1 (List.replicate n.toNat x):=by
  intro H;obtain⟨n,rfl⟩: ∃k:Nat,n=k:=⟨n.toNat,by omega⟩;refine aH ar0 (by simp) (aD ?_);unfold alO;have c1:decide ((n:Int)<0)=false:=decide_eq_false (by omega);have c2:IntKind.wrap .u64 1=1:=by decide
  have c3:IntKind.wrap .u64 (n:Int)=n:=IntWalk.u64_in _ (by omega);have c4:IntKind.wrap .i64 (n:Int)=n:=IntWalk.i64_in _ (by omega);have hm:Wm 1 n=some ((0:Int),(n:Int)):=by
    unfold Wm PI;rw [if_pos ⟨⟨by omega,by omega⟩,by omega,by omega⟩];have e1:((1:Int).toNat*((n:Nat):Int).toNat/18446744073709551616:Nat)=0:=by
      rw [Int.toNat_natCast];show(1*n)/_=0;omega
    have e2:((1:Int).toNat*((n:Nat):Int).toNat% 18446744073709551616:Nat)=n:=by
      rw [Int.toNat_natCast];show(1*n)% _=n;omega
    rw [e1,e2];rfl
  have hc:=ajp hm;have d1:decide ((n:Int)>9223372036854775807)=false:=decide_eq_false (by omega);unfold aaI aaJ;simp -implicitDefEqProofs only [go_sem,c1,c2,c3,c4,d1];refine cK.mono (hc H) fun v H' hv=> ?_;obtain⟨rfl,rfl⟩:=hv;have d0:decide ((0:Int)>0)=false:=by decide
  simp -implicitDefEqProofs only [go_sem,c1,c2,c3,c4,d0,d1];refine am6 (k:= .i64) (k':= .i64) (n:=n) (by simp only [go_sem]) (by simp only [go_sem]) (by omega) ?_;have hob:(H'.new (List.replicate n (PV.int .i64 0))).obj H'.next=some (List.replicate n (PV.int .i64 0)):=by
    show(if H'.next=H'.next then some _ else _)=_
    rw [if_pos rfl]
  simp -implicitDefEqProofs only [go_sem]
  refine ajq (id:=H'.next) (off:=0) (len:=n) (cap:=n) (fs:=[[.int .i64 x]]) (cs:=List.replicate n (.int .i64 0)) (by simp only [go_sem]) (by simp only [go_sem];rfl) hob
    (by intro cs hcs;rw [List.mem_singleton.1 hcs];exact⟨rfl,fun c hc=>by rw [List.mem_singleton.1 hc];rfl⟩) (by rw [List.length_replicate];omega) ?_
  have hput:putCells (List.replicate n (PV.int .i64 0)) 0 (([[PV.int .i64 x]]:List (List PV)).take n).flatten=List.replicate (min 1 n) (.int .i64 x)++List.replicate (n -min 1 n) (.int .i64 0):=by
    cases n with
    |zero=>rfl
    |succ n=>
      have e:min 1 (n+1)=1:=by omega
      rw [e,List.take_of_length_le (by simp)];simp [putCells,List.replicate_succ]
  rw [hput];have e1:(min ([[PV.int .i64 x]]:List (List PV)).length n:Nat)=min 1 n:=rfl;rw [e1];simp -implicitDefEqProofs only [go_sem];have apv: ∀cs:List PV,(((H'.new (List.replicate n (PV.int .i64 0))).put H'.next cs).obj H'.next)=some cs:=fun cs=>by
    show(if H'.next=H'.next then some _ else _)=_
    rw [if_pos rfl]
  refine am5 x H'.next n ((H'.new (List.replicate n (PV.int .i64 0)))) _ (by omega) (fun σ' H2 k7 ko kn kob kl=> ?_) n (min 1 n) _ _ (List.replicate (n -min 1 n) (.int .i64 0)) (by omega) (by omega) (by omega) ?_ ?_ (apv _) (by rw [List.length_replicate]) rfl
    (fun i hi=> ?_) (fun k=>rfl)
  · show WE Tryz.prog (.exit 0) _ _ σ' H2
    simp -implicitDefEqProofs only [go_sem,k7];refine⟨[H'.next],.inr ⟨H'.next,n,[],rfl,by rw [List.length_replicate],by rw [List.length_replicate];omega,by rw [kn];exact Nat.lt_succ_self _,?_,?_⟩,fun i hi=> .inr (by rw [List.mem_singleton.1 hi];exact Nat.le_refl _),⟨by rw [kn];exact Nat.le_succ _,fun i hi _=> ?_⟩,fun c3 hc=> ?_⟩
    · rw [ko,List.append_nil,List.map_replicate];exact congrArg some (FK (PV.int .i64 x) n).symm
    · rw [List.length_replicate];simp
    · rw [kob i (by omega)];show(if i=H'.next then some _ else _)=_
      rw [if_neg (by omega)]
    · cases c3 with
      |unk=>exact hc
      |tok t=>exact⟨by rw [kl];exact hc.1,by rw [kn];exact Nat.lt_succ_of_lt hc.2⟩
      |nil=>trivial
      |exact=>trivial
  · simp only [yc,Nat.reduceEqDiff,↓reduceIte]
  · simp only [yc,Nat.reduceEqDiff,↓reduceIte]
  · show(if i=H'.next then some _ else _)=_
    rw [if_neg hi]
def Hg (l:List Int) (n:Int):List Int:=List.replicate n.toNat (l.headD 0)
theorem am7 (l:List Int) (n:Int) (h:l.length=1/\0<=n/\n<=1000000):zK Tryz.prog 94 [.aB (l.map aY) .exact,.int .i64 n] aY 1 (Hg l n):=by
  match l,h with
  |[x],h=>exact apu x n h.2
end Go.VL
end
section
set_option maxHeartbeats 4000000
namespace Go.VL
open Go.Proofs
def mg:Nat->(List Int)->(List Int)->Int->(List Int)->Int->Int->Option (((List Int)×(List Int)))
  |0,_,_,_,_,_,_=>none
  |k+1,uj,jP,kD,fV,jE,dQ=>
    cond (decide (dQ<jE)) (if 0<=dQ then Option.bind (fV[dQ.toNat]?) fun x21=>if 0<=x21 then Option.bind (uj[x21.toNat]?) fun x24=>Option.bind (jP[x21.toNat]?) fun x41=>mg k (uj.set x21.toNat kD) (jP.set x21.toNat dQ) kD fV jE (IntKind.wrap .i64 (dQ+1))else none else none) (some ((uj,jP)))
def Jq:List Nat:=[8,9]++List.range' 27 14
theorem TD: ∀(k:Nat) (pY:PV) (jF:List Nat) (jK:PV) (gu:List Nat) (M:List Nat) (uj:List Int) (jP:List Int) (kD:Int) (fV:List Int) (jE:Int) (dQ:Int) (aC σ:Nat->PV) (H0 H:AH) (f0:Fr Jq aC σ) (hf0:HF M H0 H) (sl:σ 4=pY/\σ 5=jK/\σ 6=(.int .i64 kD)/\σ 25=(.aB (fV.map aY) .unk)/\σ 26=(.int .i64 jE)/\σ 27=(.int .i64 dQ)) (qb:aK H aY 1 uj pY jF) (pF:Nw H0 M jF) (kH:aK H aY 1 jP jK gu) (j6:Nw H0 M gu) (gJ:Dj jF gu) (o:((List Int)×(List Int))) (h:mg k uj jP kD fV jE dQ=some o) (Q:Post) (q0: ∀(p:(List Int)×(List Int)) (v0:PV) (oQ:List Nat) (v1:PV) (Oj:List Nat) (σ':Nat->PV) (H':AH),o=p->Fr Jq aC σ'->HF M H0 H'->(σ' 4=v0/\σ' 5=v1)->aK H' aY 1 p.1 v0 oQ->Nw H0 M oQ->aK H' aY 1 p.2 v1 Oj->Nw H0 M Oj->Dj oQ Oj->Q (.exit 2) σ' H'),W Tryz.prog (.loop Rv) Q σ H:=by
  intro k
  induction k with
  |zero=>intro pY jF jK gu M uj jP kD fV jE dQ aC σ H0 H f0 hf0 sl qb pF kH j6 gJ o h Q q0;simp only [mg,reduceCtorEq]at h
  |succ k ih=>
    intro pY jF jK gu M uj jP kD fV jE dQ aC σ H0 H f0 hf0 sl qb pF kH j6 gJ o h Q q0;obtain⟨s4,s5,s6,uD,uS,wT⟩:=sl;have hle0:=hf0.1;unfold mg at h;refine aV (fun K hK=>aD ?_);unfold Rv;rcases av h with⟨e19,h⟩|⟨e19,h⟩
    ·obtain⟨e20,h⟩:=aO h;obtain⟨x21,e22,h⟩:=aj h;obtain⟨e23,h⟩:=aO h;obtain⟨x24,e25,h⟩:=aj h;obtain⟨w26,w27,am8,hil,w28,hC,hL,hD,hI⟩:=aK.content qb e25;have w29:=ne_next hil;have w30:=aS hil;have w31:jG 1 pY (.int .i64 x21)=some (.ref w26 (x21.toNat)):=by simpa using hI .i64 x21 (by first|omega|decide) (by first|rfl|omega)
     have awk:w27[x21.toNat]? =some (.int .i64 x24):=by simpa using hC 0 _ rfl
     clear hC hL hD hI;try refine bK ?_
     refine nK (f:=aY) (id:=w26) (o:=x21.toNat) (i:=x21.toNat) (j:=0) (a:=x24) (y:=kD) (vs:=[(.int .i64 kD)]) aZ am8 (by omega) (by repeat (first|exact qb|apply aK.new|refine aK.put ?_ (fun hm=>by have:=aK.lt qb _ hm;omega))) e25 aZ rfl rfl (by first|decide|(simp only [List.length_cons,List.length_nil];omega)) rfl (fun H34 r35 Ol afv=> ?_);have le:=Ol.1;try simp only [AH.aI,AH.aJ,AH.aL,AH.aM]at le
     have r39:=aK.hf (by repeat (first|exact kH|apply aK.new|refine aK.put ?_ (fun hm=>by have:=aK.lt kH _ hm;omega))) Ol (Dj.symm gJ);obtain⟨x41,e42,h⟩:=aj h;obtain⟨w43,w44,ana,hil,w45,hC,hL,hD,hI⟩:=aK.content r39 e42;have w46:=ne_next hil;have w47:=aS hil;have w48:jG 1 jK (.int .i64 x21)=some (.ref w43 (x21.toNat)):=by simpa using hI .i64 x21 (by first|omega|decide) (by first|rfl|omega)
     have awl:w44[x21.toNat]? =some (.int .i64 x41):=by simpa using hC 0 _ rfl
     clear hC hL hD hI;try refine bK ?_
     refine nK (f:=aY) (id:=w43) (o:=x21.toNat) (i:=x21.toNat) (j:=0) (a:=x41) (y:=dQ) (vs:=[(.int .i64 dQ)]) aZ ana (by omega) (by repeat (first|exact r39|apply aK.new|refine aK.put ?_ (fun hm=>by have:=aK.lt r39 _ hm;omega))) e42 aZ rfl rfl (by first|decide|(simp only [List.length_cons,List.length_nil];omega)) rfl (fun H51 r52 afY afy=> ?_);have le:=afY.1;try simp only [AH.aI,AH.aJ,AH.aL,AH.aM]at le
     have r56:=aK.hf (by repeat (first|exact r35|apply aK.new|refine aK.put ?_ (fun hm=>by have:=aK.lt r35 _ hm;omega))) afY gJ;try refine bK ?_
     refine hK _ _ ?_;exact ih pY jF jK gu M (uj.set x21.toNat kD) (jP.set x21.toNat dQ) kD fV jE (IntKind.wrap .i64 (dQ+1)) _ _ _ _ aN (by repeat (first|exact hf0|refine HF.new ?_|refine HF.eG ?_|refine HF.used ?_|refine HF.put (by first|(right;omega)|(left;simp only [List.mem_cons,true_or,or_true])) ?_|refine HF.via Ol pF ?_|refine HF.via afY j6 ?_)) aZ (by repeat (first|exact r56|apply aK.new|refine aK.put ?_ (fun hm=>by have:=aK.lt r56 _ hm;omega))) pF (by repeat (first|exact r52|apply aK.new|refine aK.put ?_ (fun hm=>by have:=aK.lt r52 _ hm;omega))) j6 gJ _ h _ q0
    ·obtain rfl:=ak h;try refine bK ?_
     exact q0 _ pY jF jK gu _ _ rfl aN (by repeat (first|exact hf0|refine HF.new ?_|refine HF.eG ?_|refine HF.used ?_|refine HF.put (by first|(right;omega)|(left;simp only [List.mem_cons,true_or,or_true])) ?_)) aZ (by repeat (first|exact qb|apply aK.new|refine aK.put ?_ (fun hm=>by have:=aK.lt qb _ hm;omega))) pF (by repeat (first|exact kH|apply aK.new|refine aK.put ?_ (fun hm=>by have:=aK.lt kH _ hm;omega))) j6 gJ
def mh:Nat->(List Int)->(List Int)->(List Nd)->Int->Int->Option (((List Int)×(List Int)))
  |0,_,_,_,_,_=>none
  |k+1,uj,jP,IQ,IU,Bf=>
    cond (decide (Bf<IU)) (if 0<=Bf then Option.bind (IQ[Bf.toNat]?) fun FI=>Option.bind (mg k uj jP Bf FI.args (FI.args.length:Int) 0) (fun p60=>mh k p60.1 p60.2 IQ IU (IntKind.wrap .i64 (Bf+1)))else none) (some ((uj,jP)))
def Jr:List Nat:=[6,7,8,9]++List.range' 19 23
theorem TF: ∀(k:Nat) (pY:PV) (jF:List Nat) (jK:PV) (gu:List Nat) (M:List Nat) (uj:List Int) (jP:List Int) (IQ:List Nd) (IU:Int) (Bf:Int) (aC σ:Nat->PV) (H0 H:AH) (f0:Fr Jr aC σ) (hf0:HF M H0 H) (sl:σ 4=pY/\σ 5=jK/\σ 17=(.aB (IQ.map Nd.cells) .unk)/\σ 18=(.int .i64 IU)/\σ 19=(.int .i64 Bf)) (qb:aK H aY 1 uj pY jF) (pF:Nw H0 M jF) (kH:aK H aY 1 jP jK gu) (j6:Nw H0 M gu) (gJ:Dj jF gu) (o:((List Int)×(List Int))) (h:mh k uj jP IQ IU Bf=some o) (Q:Post) (q0: ∀(p:(List Int)×(List Int)) (v0:PV) (oQ:List Nat) (v1:PV) (Oj:List Nat) (σ':Nat->PV) (H':AH),o=p->Fr Jr aC σ'->HF M H0 H'->(σ' 4=v0/\σ' 5=v1)->aK H' aY 1 p.1 v0 oQ->Nw H0 M oQ->aK H' aY 1 p.2 v1 Oj->Nw H0 M Oj->Dj oQ Oj->Q (.exit 0) σ' H'),W Tryz.prog (.loop Rw) Q σ H:=by
  intro k
  induction k with
  |zero=>intro pY jF jK gu M uj jP IQ IU Bf aC σ H0 H f0 hf0 sl qb pF kH j6 gJ o h Q q0;simp only [mh,reduceCtorEq]at h
  |succ k ih=>
    intro pY jF jK gu M uj jP IQ IU Bf aC σ H0 H f0 hf0 sl qb pF kH j6 gJ o h Q q0;obtain⟨s4,s5,s17,pQ,qE⟩:=sl;have hle0:=hf0.1;unfold mh at h;refine aV (fun K hK=>aD ?_);unfold Rw;rcases av h with⟨e15,h⟩|⟨e15,h⟩
    ·obtain⟨e16,h⟩:=aO h;obtain⟨FI,e18,h⟩:=aj h;try refine bK ?_
     rw [nY];try refine bK ?_
     obtain⟨o58,h59,h⟩:=aj h;refine TD k pY jF jK gu (jF++(gu++[])) uj jP Bf FI.args (FI.args.length:Int) 0 _ _ _ _ (Fr.refl _ _) (HF.refl _ _) aZ (by repeat (first|exact qb|apply aK.new|refine aK.put ?_ (fun hm=>by have:=aK.lt qb _ hm;omega))) (fun i hi=>Or.inl (by simp only [List.mem_append,List.mem_cons,hi,true_or,or_true])) (by repeat (first|exact kH|apply aK.new|refine aK.put ?_ (fun hm=>by have:=aK.lt kH _ hm;omega))) (fun i hi=>Or.inl (by simp only [List.mem_append,List.mem_cons,hi,true_or,or_true])) gJ _ h59 _ ?_
     ·rintro p60 v64 apw v69 apx σ' H63 eo aci anb ⟨s68,Xx⟩ r66 afZ r71 asL asM;rw [eo]at h;have s75:σ' 17=(.aB (IQ.map Nd.cells) .unk):=(aci 17 (by decide)).trans aZ;have s76:σ' 18=(.int .i64 IU):=(aci 18 (by decide)).trans aZ;have s77:σ' 19=(.int .i64 Bf):=(aci 19 (by decide)).trans aZ;have le:=anb.1;try simp only [AH.aI,AH.aJ,AH.aL,AH.aM]at le
      try refine bK ?_
      refine hK _ _ ?_;exact ih v64 apw v69 apx M p60.1 p60.2 IQ IU (IntKind.wrap .i64 (Bf+1)) _ _ _ _ (by repeat (first|exact f0|refine Fr.upd (by decide) ?_|refine Fr.via aci (by decide) ?_)) (by repeat (first|exact hf0|refine HF.new ?_|refine HF.eG ?_|refine HF.used ?_|refine HF.put (by first|(right;omega)|(left;simp only [List.mem_cons,true_or,or_true])) ?_|refine HF.via anb (List.forall_mem_append.2 ⟨pF,(List.forall_mem_append.2 ⟨j6,(fun _ h=>absurd h List.not_mem_nil)⟩)⟩) ?_)) aZ (by repeat (first|exact r66|apply aK.new|refine aK.put ?_ (fun hm=>by have:=aK.lt r66 _ hm;omega))) (Nw.via (List.forall_mem_append.2 ⟨pF,(List.forall_mem_append.2 ⟨j6,(fun _ h=>absurd h List.not_mem_nil)⟩)⟩) bO afZ) (by repeat (first|exact r71|apply aK.new|refine aK.put ?_ (fun hm=>by have:=aK.lt r71 _ hm;omega))) (Nw.via (List.forall_mem_append.2 ⟨pF,(List.forall_mem_append.2 ⟨j6,(fun _ h=>absurd h List.not_mem_nil)⟩)⟩) bO asL) asM _ h _ q0
    ·obtain rfl:=ak h;try refine bK ?_
     exact q0 _ pY jF jK gu _ _ rfl aN (by repeat (first|exact hf0|refine HF.new ?_|refine HF.eG ?_|refine HF.used ?_|refine HF.put (by first|(right;omega)|(left;simp only [List.mem_cons,true_or,or_true])) ?_)) aZ (by repeat (first|exact qb|apply aK.new|refine aK.put ?_ (fun hm=>by have:=aK.lt qb _ hm;omega))) pF (by repeat (first|exact kH|apply aK.new|refine aK.put ?_ (fun hm=>by have:=aK.lt kH _ hm;omega))) j6 gJ
def yM (k:Nat) (aG:List Nd):Option ((List Int)×(List Int)):=
  if [(-1)].length=1/\0<=(aG.length:Int)/\(aG.length:Int)<=1000000 then if 0<=(aG.length:Int)/\(aG.length:Int)<=1099511627776/\8*(aG.length:Int)<=1099511627776 then Option.bind (mh k (Hg [(-1)] (aG.length:Int):List Int) (List.replicate aG.length 0) aG (aG.length:Int) 0) (fun wS=>some (wS.1,wS.2))else none else none
theorem Z9 {k:Nat} {aG:List Nd} {c0:Ck} {r:(List Int)×(List Int)} (h:yM k aG=some r):aF Tryz.prog 50 [(.aB (aG.map Nd.cells) c0)] (.dw [(.aB (r.1.map aY) .unk),(.aB (r.2.map aY) .unk)]):=by
  refine aF.lw (.aB .nil) (aF.aP (bg.mem (.cons (aU Nd.pu _) .nil)) (aH arz (by simp) (aD ?_)) (.dw _ (bg.mem (.cons (aU gG _) (.cons (aU gG _) .nil)))));unfold yM at h;unfold alb;obtain⟨e13,h⟩:=aO h;obtain⟨e14,h⟩:=aO h;try refine bK ?_
  refine aaU (ad7 (a:=3) (b:=6) (f:=aY) (sz:=1) (xs:=(Hg [(-1)] (aG.length:Int):List Int)) (g:=aY) (sz2:=1) (ys:=(List.replicate aG.length 0)) (fun x y i=>match i with|0=>(.aB ([(-1)].map aY) .exact)|1=>(.aB (aG.map Nd.cells) .unk)|2=>(.int .i64 (aG.length:Int))|3=>x|4=>(.aB (aG.map Nd.cells) .unk)|5=>(.int .i64 (aG.length:Int))|6=>y|7=>x|_=>ud) rfl (by decide) rfl rfl (fun _ _=>rfl) (fun _ _=>rfl) (by
    intro x x' y i h1 h2;rcases i with _|i
    · first|rfl|exact absurd rfl h1|exact absurd h2 (by decide)
    rcases i with _|i
    · first|rfl|exact absurd rfl h1|exact absurd h2 (by decide)
    rcases i with _|i
    · first|rfl|exact absurd rfl h1|exact absurd h2 (by decide)
    rcases i with _|i
    · first|rfl|exact absurd rfl h1|exact absurd h2 (by decide)
    rcases i with _|i
    · first|rfl|exact absurd rfl h1|exact absurd h2 (by decide)
    rcases i with _|i
    · first|rfl|exact absurd rfl h1|exact absurd h2 (by decide)
    rcases i with _|i
    · first|rfl|exact absurd rfl h1|exact absurd h2 (by decide)
    rcases i with _|i
    · first|rfl|exact absurd rfl h1|exact absurd h2 (by decide)
    rfl) (by
    intro x y y' i h1 h2;rcases i with _|i
    · first|rfl|exact absurd rfl h1|exact absurd h2 (by decide)
    rcases i with _|i
    · first|rfl|exact absurd rfl h1|exact absurd h2 (by decide)
    rcases i with _|i
    · first|rfl|exact absurd rfl h1|exact absurd h2 (by decide)
    rcases i with _|i
    · first|rfl|exact absurd rfl h1|exact absurd h2 (by decide)
    rcases i with _|i
    · first|rfl|exact absurd rfl h1|exact absurd h2 (by decide)
    rcases i with _|i
    · first|rfl|exact absurd rfl h1|exact absurd h2 (by decide)
    rcases i with _|i
    · first|rfl|exact absurd rfl h1|exact absurd h2 (by decide)
    rcases i with _|i
    · first|rfl|exact absurd rfl h1|exact absurd h2 (by decide)
    rfl) (by
    intro x y;refine⟨.inr ⟨rfl,fun H=>by(try simp -implicitDefEqProofs only [iN,dL,evs,List.map,List.nil_append,List.append_nil,go_sem]);first|done|exact⟨rfl,rfl⟩⟩,?_⟩;refine⟨.inr ⟨rfl,fun H=>by(try simp -implicitDefEqProofs only [iN,dL,evs,List.map,List.nil_append,List.append_nil,go_sem]);first|done|exact⟨rfl,rfl⟩⟩,?_⟩;refine⟨.inr ⟨rfl,fun H=>by(try simp -implicitDefEqProofs only [iN,dL,evs,List.map,List.nil_append,List.append_nil,go_sem]);first|done|exact⟨rfl,rfl⟩⟩,?_⟩;refine⟨.inl rfl,?_⟩;refine⟨.inr ⟨rfl,fun H=>by(try simp -implicitDefEqProofs only [iN,dL,evs,List.map,List.nil_append,List.append_nil,go_sem]);first|done|exact⟨rfl,rfl⟩⟩,?_⟩;refine⟨.inr ⟨rfl,fun H=>by(try simp -implicitDefEqProofs only [iN,dL,evs,List.map,List.nil_append,List.append_nil,go_sem]);first|done|exact⟨rfl,rfl⟩⟩,?_⟩;refine⟨.inl rfl,?_⟩;refine⟨.inr ⟨rfl,fun H=>by(try simp -implicitDefEqProofs only [iN,dL,evs,List.map,List.nil_append,List.append_nil,go_sem]);first|done|exact⟨rfl,rfl⟩⟩,?_⟩;exact trivial) (fun y H=>⟨trivial,ajn (am7 [(-1)] (aG.length:Int) e13) (by simp -implicitDefEqProofs only [dL,evs,List.map,List.nil_append,List.append_nil,go_sem])⟩) (fun x H=>⟨trivial,ajm (f:=aY) (k:= .i64) (k':= .i64) (n:=(aG.length:Int)) 0 rfl (by simp -implicitDefEqProofs only [dL,evs,List.map,List.nil_append,List.append_nil,go_sem]) (by simp -implicitDefEqProofs only [dL,evs,List.map,List.nil_append,List.append_nil,go_sem]) e14 (by decide)⟩) (fun v1 v8 anc ane H3 r4 r10 asN nw5 axw hf6 ok7=> ?_))
  simp only [dL,List.length_cons,List.length_nil,Nat.reduceAdd];have le:=hf6.1;try simp only [AH.aI,AH.aJ,AH.aL,AH.aM]at le
  try refine bK ?_
  obtain⟨o78,Yz,h⟩:=aj h;refine TF k v1 anc v8 ane (anc++(ane++[])) (Hg [(-1)] (aG.length:Int):List Int) (List.replicate aG.length 0) aG (aG.length:Int) 0 _ _ _ _ (Fr.refl _ _) (HF.refl _ _) aZ (by repeat (first|exact r4|apply aK.new|refine aK.put ?_ (fun hm=>by have:=aK.lt r4 _ hm;omega))) (fun i hi=>Or.inl (by simp only [List.mem_append,List.mem_cons,hi,true_or,or_true])) (by repeat (first|exact r10|apply aK.new|refine aK.put ?_ (fun hm=>by have:=aK.lt r10 _ hm;omega))) (fun i hi=>Or.inl (by simp only [List.mem_append,List.mem_cons,hi,true_or,or_true])) asN _ Yz _ ?_
  ·rintro wS v84 awm v89 awn σ' H83 eo zL af0 ⟨s88,s93⟩ r86 axx r91 axy axz;rw [eo]at h;have le:=af0.1;try simp only [AH.aI,AH.aJ,AH.aL,AH.aM]at le
   obtain rfl:=ak h;try refine bK ?_
   exact(bR (.cons (aK.fz gG (by repeat (first|exact r86|apply aK.new|refine aK.put ?_ (fun hm=>by have:=aK.lt r86 _ hm;omega)))) (.cons (aK.fz gG (by repeat (first|exact r91|apply aK.new|refine aK.put ?_ (fun hm=>by have:=aK.lt r91 _ hm;omega)))) .nil)))
end Go.VL
end
section
namespace Go.VL
open Go.Proofs Go.RowKit
set_option maxRecDepth 100000
theorem aef:Enters Tryz.prog 141:=⟨_,Tryz.func141,rfl,by kernel_rfl⟩
theorem af2:V7 Tryz.prog 141 1 false:=by
  intro l m bx n J Jx W hn hc hY h0;refine callsIn_of_wp Tryz.func141 rfl trivial ?_ rfl;simp only [Tryz.ntmps141,List.size_toArray,List.length_cons,List.length_nil,Nat.reduceAdd,Nat.reduceSub,Array.replicate_succ,Array.replicate_zero,List.push_toArray,List.append_toArray,List.nil_append,List.cons_append];obtain⟨ad0,cap0,hc0⟩:=hc
  gi_wp2
  gi_loopw [3] (fun v3 wr=> ∃k:Nat,v3= .int .i64 ((k:Int) -1)/\k<=n/\J k wr) (fun v3 wr=>(RowKit.intOf v3+1).toNat)
  case atStart=>exact⟨n,rfl,Nat.le_refl _,h0⟩
  case round=>
    obtain⟨k,rfl,hk,hJ⟩:=hrel;cases k with
    |zero=>
      have c1: ¬(0:Int)<=((0:Nat):Int) -1:=by omega
      gi_wp2
      go_end0
      exact⟨⟨_,rfl⟩,.inl hJ⟩
    |succ k=>
      obtain⟨b,o,cap,vs,hb,hkn,hvs,hld,fn,tmps,assign,body,hy,hR⟩:=hY k wr hJ;have e1:((k+1:Nat):Int) -1=(k:Int):=by omega
      rw [e1];have c1:(0:Int)<=(k:Int):=by omega
      have c2:(k:Int)<(n:Int):=by omega
      have axA:wr.cell? ⟨b,o+k,none⟩=some (elemV false vs):=by
        have:=hld 0 (elemV false vs) (by simp [elemV,hvs]);simpa using this
      clear hld;generalize elemV false vs=v at*
      gi_wp2
      refine⟨fun hd=>absurd hd (by simp [Fence.wide]),(ZP hR).mono ?_⟩;rintro e W' (⟨rfl,hJ'⟩|⟨rfl,hJx⟩)
      · gi_wp2
        go_roundw
        case rel=>exact⟨k,rfl,by omega,hJ'⟩
        case measure=>simp [RowKit.intOf]
      · gi_wp2
        refine bodyPost_ret (results_none rfl _ _ _) rfl ?_;exact⟨⟨_,rfl⟩,.inr hJx⟩
end Go.VL
end
section
set_option maxHeartbeats 4000000
namespace Go.VL
open Go.Proofs
def vJ (bI:Int):Option Bool:=
  cond (bI==1) (some ((bI==1))) (some ((bI==2)))
theorem TG: ∀(bI:Int) (aC σ:Nat->PV) (H:AH) (f0:Fr [15,16,17] aC σ) (sl:σ 11=(.int .i64 bI)) (o:Bool) (h:vJ bI=some o) (Q:Post) (q0: ∀(p:Bool) (σ':Nat->PV),o=p->Fr [15,16,17] aC σ'->(σ' 15=(.bool p))->Q .normal σ' H),W Tryz.prog Sk Q σ H:=by
  intro bI aC σ H f0 sl o h Q q0;have s11:=sl;unfold vJ at h;refine aD ?_;unfold Sk;rcases av h with⟨e2,h⟩|⟨e2,h⟩
  ·obtain rfl:=ak h;try refine ah ?_
   exact q0 _ _ rfl aN au
  ·obtain rfl:=ak h;try refine ah ?_
   exact q0 _ _ rfl aN au
def zM (bI:Int):Option Bool:=
  cond (bI==4) (some ((bI==4))) (some ((bI==5)))
theorem TH: ∀(bI:Int) (aC σ:Nat->PV) (H:AH) (f0:Fr [38,39,40] aC σ) (sl:σ 11=(.int .i64 bI)) (o:Bool) (h:zM bI=some o) (Q:Post) (q0: ∀(p:Bool) (σ':Nat->PV),o=p->Fr [38,39,40] aC σ'->(σ' 38=(.bool p))->Q .normal σ' H),W Tryz.prog Sm Q σ H:=by
  intro bI aC σ H f0 sl o h Q q0;have s11:=sl;unfold zM at h;refine aD ?_;unfold Sm;rcases av h with⟨e20,h⟩|⟨e20,h⟩
  ·obtain rfl:=ak h;try refine ah ?_
   exact q0 _ _ rfl aN au
  ·obtain rfl:=ak h;try refine ah ?_
   exact q0 _ _ rfl aN au
def zN (bI:Int):Option Bool:=
  cond (bI==6) (some ((bI==6))) (some ((bI==12)))
theorem TI: ∀(bI:Int) (aC σ:Nat->PV) (H:AH) (f0:Fr [43,44,45] aC σ) (sl:σ 11=(.int .i64 bI)) (o:Bool) (h:zN bI=some o) (Q:Post) (q0: ∀(p:Bool) (σ':Nat->PV),o=p->Fr [43,44,45] aC σ'->(σ' 43=(.bool p))->Q .normal σ' H),W Tryz.prog Sn Q σ H:=by
  intro bI aC σ H f0 sl o h Q q0;have s11:=sl;unfold zN at h;refine aD ?_;unfold Sn;rcases av h with⟨e33,h⟩|⟨e33,h⟩
  ·obtain rfl:=ak h;try refine ah ?_
   exact q0 _ _ rfl aN au
  ·obtain rfl:=ak h;try refine ah ?_
   exact q0 _ _ rfl aN au
def zO (bI:Int):Option Bool:=
  cond (bI==7) (some ((bI==7))) (cond (bI==8) (some ((bI==8))) (cond (bI==9) (some ((bI==9))) (some ((bI==13)))))
def Js:List Nat:=[48,49,50,51,52]
theorem TJ: ∀(bI:Int) (aC σ:Nat->PV) (H:AH) (f0:Fr Js aC σ) (sl:σ 11=(.int .i64 bI)) (o:Bool) (h:zO bI=some o) (Q:Post) (q0: ∀(p:Bool) (σ':Nat->PV),o=p->Fr Js aC σ'->(σ' 48=(.bool p))->Q .normal σ' H),W Tryz.prog Sq Q σ H:=by
  intro bI aC σ H f0 sl o h Q q0;have s11:=sl;unfold zO at h;refine aD ?_;unfold Sq;rcases av h with⟨e48,h⟩|⟨e48,h⟩
  ·obtain rfl:=ak h;try refine ah ?_
   exact q0 _ _ rfl aN au
  ·rcases av h with⟨e49,h⟩|⟨e49,h⟩
   ·obtain rfl:=ak h;try refine ah ?_
    exact q0 _ _ rfl aN au
   ·rcases av h with⟨e50,h⟩|⟨e50,h⟩
    ·obtain rfl:=ak h;try refine ah ?_
     exact q0 _ _ rfl aN au
    ·obtain rfl:=ak h;try refine ah ?_
     exact q0 _ _ rfl aN au
def zP (bI:Int):Option Bool:=
  cond (bI==10) (some ((bI==10))) (some ((bI==11)))
theorem TK: ∀(bI:Int) (aC σ:Nat->PV) (H:AH) (f0:Fr [60,61,62] aC σ) (sl:σ 11=(.int .i64 bI)) (o:Bool) (h:zP bI=some o) (Q:Post) (q0: ∀(p:Bool) (σ':Nat->PV),o=p->Fr [60,61,62] aC σ'->(σ' 60=(.bool p))->Q .normal σ' H),W Tryz.prog Sr Q σ H:=by
  intro bI aC σ H f0 sl o h Q q0;have s11:=sl;unfold zP at h;refine aD ?_;unfold Sr;rcases av h with⟨e63,h⟩|⟨e63,h⟩
  ·obtain rfl:=ak h;try refine ah ?_
   exact q0 _ _ rfl aN au
  ·obtain rfl:=ak h;try refine ah ?_
   exact q0 _ _ rfl aN au
def zQ (bI:Int):Option Bool:=
  cond (bI==16) (some ((bI==16))) (some ((bI==17)))
theorem TL: ∀(bI:Int) (aC σ:Nat->PV) (H:AH) (f0:Fr [70,71,72] aC σ) (sl:σ 11=(.int .i64 bI)) (o:Bool) (h:zQ bI=some o) (Q:Post) (q0: ∀(p:Bool) (σ':Nat->PV),o=p->Fr [70,71,72] aC σ'->(σ' 70=(.bool p))->Q .normal σ' H),W Tryz.prog Sv Q σ H:=by
  intro bI aC σ H f0 sl o h Q q0;have s11:=sl;unfold zQ at h;refine aD ?_;unfold Sv;rcases av h with⟨ML,h⟩|⟨ML,h⟩
  ·obtain rfl:=ak h;try refine ah ?_
   exact q0 _ _ rfl aN au
  ·obtain rfl:=ak h;try refine ah ?_
   exact q0 _ _ rfl aN au
def zR (bI:Int):Option Bool:=
  cond (bI==19) (some ((bI==19))) (some ((bI==21)))
theorem TM: ∀(bI:Int) (aC σ:Nat->PV) (H:AH) (f0:Fr [82,83,84] aC σ) (sl:σ 11=(.int .i64 bI)) (o:Bool) (h:zR bI=some o) (Q:Post) (q0: ∀(p:Bool) (σ':Nat->PV),o=p->Fr [82,83,84] aC σ'->(σ' 82=(.bool p))->Q .normal σ' H),W Tryz.prog Sw Q σ H:=by
  intro bI aC σ H f0 sl o h Q q0;have s11:=sl;unfold zR at h;refine aD ?_;unfold Sw;rcases av h with⟨Pn,h⟩|⟨Pn,h⟩
  ·obtain rfl:=ak h;try refine ah ?_
   exact q0 _ _ rfl aN au
  ·obtain rfl:=ak h;try refine ah ?_
   exact q0 _ _ rfl aN au
def yN (k:Nat) (bA:Nd):Option Shape:=
  cond (bA.kind==0) (some (Shape.mk (0,0) (0,0) false true)) (Option.bind (vJ bA.kind) (fun p5=>cond p5 (some (Shape.mk (0,0) (0,0) true false)) (cond (bA.kind==3) (Option.bind (jV k bA.text) fun qQ=>cond qQ.2 (some (Shape.mk (0,0) ((bA.args.length:Int),(bA.args.length:Int)) true false)) (some (Shape.mk (0,0) (1,4) true false))) (Option.bind (zM bA.kind) (fun MP=>cond MP (some (Shape.mk (0,0) (0,30) false false)) (Option.bind (zN bA.kind) (fun p36=>cond p36 (Option.bind (tO 1 2) fun p47=>some p47) (Option.bind (zO bA.kind) (fun p53=>cond p53 (some (Shape.mk (1,4) ((IntKind.wrap .i64 ((bA.names.length:Int)+1)),(IntKind.wrap .i64 ((bA.names.length:Int)+1))) false false)) (Option.bind (zP bA.kind) (fun p66=>cond p66 (some (Shape.mk (1,4) (1,1) false false)) (cond (bA.kind==14) (some (Shape.mk (0,0) (2,5) false false)) (Option.bind (zQ bA.kind) (fun wS=>cond wS (some (Shape.mk (1,30) ((bA.names.length:Int),(bA.names.length:Int)) false false)) (cond (bA.kind==18) (some (Shape.mk (0,0) (1,1) true false)) (Option.bind (zR bA.kind) (fun GU=>cond GU (Option.bind (tO 0 3) fun XG=>some XG) (cond (bA.kind==20) (some (Shape.mk (0,0) (0,0) false false)) (cond (bA.kind==22) (some (Shape.mk (0,0) (2,30) false false)) (cond (bA.kind==23) (some (Shape.mk (1,5) (2,2) false true)) (cond (bA.kind==24) (some (Shape.mk (1,4) (1,1) false false)) (Option.bind (tO 0 2) fun ang=>some ang))))))))))))))))))))))
theorem aac {k:Nat} {bA:Nd} {r:Shape} (h:yN k bA=some r):aF Tryz.prog 90 [(.agg (Nd.cells bA))] (.agg (Shape.cells r)):=by
  refine aF.aP (bg.mem (.cons (.agg _ (Nd.pu _)) .nil)) (aH arW (by simp) (aD ?_)) (.agg _ (Shape.pu _));unfold yN at h;unfold alK;rcases av h with⟨e1,h⟩|⟨e1,h⟩
  ·obtain rfl:=ak h;try refine ah ?_
   exact(dG (.cons (.pure _ (.int _ _)) (.cons (.pure _ (.int _ _)) (.cons (.pure _ (.int _ _)) (.cons (.pure _ (.int _ _)) (.cons (.pure _ (.bool _)) (.cons (.pure _ (.bool _)) .nil)))))))
  ·try refine ah ?_
   obtain⟨o3,h4,h⟩:=aj h;refine TG bA.kind _ _ _ (Fr.refl _ _) au _ h4 _ ?_
   ·rintro p5 σ' eo fr6 s9;rw [eo]at h;have s10:σ' 1=(.ref (AH.empty.next) 0):=(fr6 1 (by decide)).trans au;have s11:σ' 2=(.ref (AH.empty.next+1) 0):=(fr6 2 (by decide)).trans au;have s12:σ' 3=(.fn (.func 140) [] []):=(fr6 3 (by decide)).trans au;have s13:σ' 4=(.int .i64 (bA.names.length:Int)):=(fr6 4 (by decide)).trans au;have MN:σ' 11=(.int .i64 bA.kind):=(fr6 11 (by decide)).trans au;rcases av h with⟨e15,h⟩|⟨e15,h⟩
    ·obtain rfl:=ak h;try refine ah ?_
     exact(dG (.cons (.pure _ (.int _ _)) (.cons (.pure _ (.int _ _)) (.cons (.pure _ (.int _ _)) (.cons (.pure _ (.int _ _)) (.cons (.pure _ (.bool _)) (.cons (.pure _ (.bool _)) .nil)))))))
    ·rcases av h with⟨e16,h⟩|⟨e16,h⟩
     ·obtain⟨qQ,e17,h⟩:=aj h;try refine ah ?_
      refine aA (nS e17) ?_;rcases av h with⟨e19,h⟩|⟨e19,h⟩
      ·obtain rfl:=ak h;try refine ah ?_
       exact(dG (.cons (.pure _ (.int _ _)) (.cons (.pure _ (.int _ _)) (.cons (.pure _ (.int _ _)) (.cons (.pure _ (.int _ _)) (.cons (.pure _ (.bool _)) (.cons (.pure _ (.bool _)) .nil)))))))
      ·obtain rfl:=ak h;try refine ah ?_
       exact(dG (.cons (.pure _ (.int _ _)) (.cons (.pure _ (.int _ _)) (.cons (.pure _ (.int _ _)) (.cons (.pure _ (.int _ _)) (.cons (.pure _ (.bool _)) (.cons (.pure _ (.bool _)) .nil)))))))
     ·try refine ah ?_
      obtain⟨o21,h22,h⟩:=aj h;refine TH bA.kind _ _ _ (Fr.refl _ _) au _ h22 _ ?_
      ·rintro MP σ' eo acj wT;rw [eo]at h;have s28:σ' 2=(.ref (AH.empty.next+1) 0):=(acj 2 (by decide)).trans au;have s29:σ' 3=(.fn (.func 140) [] []):=(acj 3 (by decide)).trans au;have s30:σ' 4=(.int .i64 (bA.names.length:Int)):=(acj 4 (by decide)).trans au;have s31:σ' 11=(.int .i64 bA.kind):=(acj 11 (by decide)).trans au;rcases av h with⟨e32,h⟩|⟨e32,h⟩
       ·obtain rfl:=ak h;try refine ah ?_
        exact(dG (.cons (.pure _ (.int _ _)) (.cons (.pure _ (.int _ _)) (.cons (.pure _ (.int _ _)) (.cons (.pure _ (.int _ _)) (.cons (.pure _ (.bool _)) (.cons (.pure _ (.bool _)) .nil)))))))
       ·try refine ah ?_
        obtain⟨o34,h35,h⟩:=aj h;refine TI bA.kind _ _ _ (Fr.refl _ _) au _ h35 _ ?_
        ·rintro p36 σ' eo YA s40;rw [eo]at h;have s41:σ' 2=(.ref (AH.empty.next+1) 0):=(YA 2 (by decide)).trans au;have s42:σ' 3=(.fn (.func 140) [] []):=(YA 3 (by decide)).trans au;have s43:σ' 4=(.int .i64 (bA.names.length:Int)):=(YA 4 (by decide)).trans au;have s44:σ' 11=(.int .i64 bA.kind):=(YA 11 (by decide)).trans au;rcases av h with⟨e45,h⟩|⟨e45,h⟩
         ·obtain⟨p47,e46,h⟩:=aj h;try refine ah ?_
          refine aA (CJ e46) ?_;obtain rfl:=ak h;try refine ah ?_
          exact(dG (.cons (.pure _ (.int _ _)) (.cons (.pure _ (.int _ _)) (.cons (.pure _ (.int _ _)) (.cons (.pure _ (.int _ _)) (.cons (.pure _ (.bool _)) (.cons (.pure _ (.bool _)) .nil)))))))
         ·try refine ah ?_
          obtain⟨o51,h52,h⟩:=aj h;refine TJ bA.kind _ _ _ (Fr.refl _ _) au _ h52 _ ?_
          ·rintro p53 σ' eo IB s57;rw [eo]at h;have s58:σ' 2=(.ref (AH.empty.next+1) 0):=(IB 2 (by decide)).trans au;have s59:σ' 3=(.fn (.func 140) [] []):=(IB 3 (by decide)).trans au;have s60:σ' 4=(.int .i64 (bA.names.length:Int)):=(IB 4 (by decide)).trans au;have s61:σ' 11=(.int .i64 bA.kind):=(IB 11 (by decide)).trans au;rcases av h with⟨e62,h⟩|⟨e62,h⟩
           ·obtain rfl:=ak h;try refine ah ?_
            exact(dG (.cons (.pure _ (.int _ _)) (.cons (.pure _ (.int _ _)) (.cons (.pure _ (.int _ _)) (.cons (.pure _ (.int _ _)) (.cons (.pure _ (.bool _)) (.cons (.pure _ (.bool _)) .nil)))))))
           ·try refine ah ?_
            obtain⟨o64,h65,h⟩:=aj h;refine TK bA.kind _ _ _ (Fr.refl _ _) au _ h65 _ ?_
            ·rintro p66 σ' eo KL s70;rw [eo]at h;have s71:σ' 2=(.ref (AH.empty.next+1) 0):=(KL 2 (by decide)).trans au;have s72:σ' 3=(.fn (.func 140) [] []):=(KL 3 (by decide)).trans au;have Xx:σ' 4=(.int .i64 (bA.names.length:Int)):=(KL 4 (by decide)).trans au;have s74:σ' 11=(.int .i64 bA.kind):=(KL 11 (by decide)).trans au;rcases av h with⟨Kk,h⟩|⟨Kk,h⟩
             ·obtain rfl:=ak h;try refine ah ?_
              exact(dG (.cons (.pure _ (.int _ _)) (.cons (.pure _ (.int _ _)) (.cons (.pure _ (.int _ _)) (.cons (.pure _ (.int _ _)) (.cons (.pure _ (.bool _)) (.cons (.pure _ (.bool _)) .nil)))))))
             ·rcases av h with⟨MK,h⟩|⟨MK,h⟩
              ·obtain rfl:=ak h;try refine ah ?_
               exact(dG (.cons (.pure _ (.int _ _)) (.cons (.pure _ (.int _ _)) (.cons (.pure _ (.int _ _)) (.cons (.pure _ (.int _ _)) (.cons (.pure _ (.bool _)) (.cons (.pure _ (.bool _)) .nil)))))))
              ·try refine ah ?_
               obtain⟨o78,Yz,h⟩:=aj h;refine TL bA.kind _ _ _ (Fr.refl _ _) au _ Yz _ ?_
               ·rintro wS σ' eo zL s84;rw [eo]at h;have s85:σ' 2=(.ref (AH.empty.next+1) 0):=(zL 2 (by decide)).trans au;have s86:σ' 3=(.fn (.func 140) [] []):=(zL 3 (by decide)).trans au;have s87:σ' 4=(.int .i64 (bA.names.length:Int)):=(zL 4 (by decide)).trans au;have s88:σ' 11=(.int .i64 bA.kind):=(zL 11 (by decide)).trans au;rcases av h with⟨Kl,h⟩|⟨Kl,h⟩
                ·obtain rfl:=ak h;try refine ah ?_
                 exact(dG (.cons (.pure _ (.int _ _)) (.cons (.pure _ (.int _ _)) (.cons (.pure _ (.int _ _)) (.cons (.pure _ (.int _ _)) (.cons (.pure _ (.bool _)) (.cons (.pure _ (.bool _)) .nil)))))))
                ·rcases av h with⟨Pm,h⟩|⟨Pm,h⟩
                 ·obtain rfl:=ak h;try refine ah ?_
                  exact(dG (.cons (.pure _ (.int _ _)) (.cons (.pure _ (.int _ _)) (.cons (.pure _ (.int _ _)) (.cons (.pure _ (.int _ _)) (.cons (.pure _ (.bool _)) (.cons (.pure _ (.bool _)) .nil)))))))
                 ·try refine ah ?_
                  obtain⟨o92,h93,h⟩:=aj h;refine TM bA.kind _ _ _ (Fr.refl _ _) au _ h93 _ ?_
                  ·rintro GU σ' eo af3 s98;rw [eo]at h;have s99:σ' 2=(.ref (AH.empty.next+1) 0):=(af3 2 (by decide)).trans au;have afO:σ' 3=(.fn (.func 140) [] []):=(af3 3 (by decide)).trans au;have amR:σ' 11=(.int .i64 bA.kind):=(af3 11 (by decide)).trans au;rcases av h with⟨XK,h⟩|⟨XK,h⟩
                   ·obtain⟨XG,IC,h⟩:=aj h;try refine ah ?_
                    refine aA (CJ IC) ?_;obtain rfl:=ak h;try refine ah ?_
                    exact(dG (.cons (.pure _ (.int _ _)) (.cons (.pure _ (.int _ _)) (.cons (.pure _ (.int _ _)) (.cons (.pure _ (.int _ _)) (.cons (.pure _ (.bool _)) (.cons (.pure _ (.bool _)) .nil)))))))
                   ·rcases av h with⟨Ko,h⟩|⟨Ko,h⟩
                    ·obtain rfl:=ak h;try refine ah ?_
                     exact(dG (.cons (.pure _ (.int _ _)) (.cons (.pure _ (.int _ _)) (.cons (.pure _ (.int _ _)) (.cons (.pure _ (.int _ _)) (.cons (.pure _ (.bool _)) (.cons (.pure _ (.bool _)) .nil)))))))
                    ·rcases av h with⟨XL,h⟩|⟨XL,h⟩
                     ·obtain rfl:=ak h;try refine ah ?_
                      exact(dG (.cons (.pure _ (.int _ _)) (.cons (.pure _ (.int _ _)) (.cons (.pure _ (.int _ _)) (.cons (.pure _ (.int _ _)) (.cons (.pure _ (.bool _)) (.cons (.pure _ (.bool _)) .nil)))))))
                     ·rcases av h with⟨Er,h⟩|⟨Er,h⟩
                      ·obtain rfl:=ak h;try refine ah ?_
                       exact(dG (.cons (.pure _ (.int _ _)) (.cons (.pure _ (.int _ _)) (.cons (.pure _ (.int _ _)) (.cons (.pure _ (.int _ _)) (.cons (.pure _ (.bool _)) (.cons (.pure _ (.bool _)) .nil)))))))
                      ·rcases av h with⟨e108,h⟩|⟨e108,h⟩
                       ·obtain rfl:=ak h;try refine ah ?_
                        exact(dG (.cons (.pure _ (.int _ _)) (.cons (.pure _ (.int _ _)) (.cons (.pure _ (.int _ _)) (.cons (.pure _ (.int _ _)) (.cons (.pure _ (.bool _)) (.cons (.pure _ (.bool _)) .nil)))))))
                       ·obtain⟨ang,e109,h⟩:=aj h;try refine ah ?_
                        refine aA (CJ e109) ?_;obtain rfl:=ak h;try refine ah ?_
                        exact(dG (.cons (.pure _ (.int _ _)) (.cons (.pure _ (.int _ _)) (.cons (.pure _ (.int _ _)) (.cons (.pure _ (.int _ _)) (.cons (.pure _ (.bool _)) (.cons (.pure _ (.bool _)) .nil)))))))
def nL:Nat->(List Nd)->(List Int)->(List Int)->Int->Option (Unit⊕Bool)
  |0,_,_,_,_=>none
  |k+1,aG,vK,kY,FL=>
    if 0<=FL then Option.bind (vK[FL.toNat]?) fun Jt=>cond (Jt !=(-1)) (if 0<=Jt then Option.bind (aG[Jt.toNat]?) fun x20=>cond (x20.kind==19) (Option.bind (kY[FL.toNat]?) fun x23=>cond (x23==2) (some (.inr (false))) (nL k aG vK kY Jt)) (nL k aG vK kY Jt)else none) (some (.inl ()))else none
def Ew:List Nat:=[8,11]++List.range' 51 25
theorem VK: ∀(k:Nat) (aG:List Nd) (vK:List Int) (kY:List Int) (FL:Int) (aC σ:Nat->PV) (H:AH) (f0:Fr Ew aC σ) (sl:σ 0=(.aB (aG.map Nd.cells) .unk)/\σ 2=(.aB (vK.map aY) .unk)/\σ 3=(.aB (kY.map aY) .unk)/\σ 11=(.int .i64 FL)) (o:Unit⊕Bool) (h:nL k aG vK kY FL=some o) (Q:Post) (q0: ∀(p:Unit) (σ':Nat->PV),o= .inl p->Fr Ew aC σ'->Q (.exit 1) σ' H) (q1: ∀(p:Bool) (σ':Nat->PV),o= .inr (p)->Fr Ew aC σ'->(σ' 8=(.bool p))->Q .ret σ' H),W Tryz.prog (.loop Rx) Q σ H:=by
  intro k
  induction k with
  |zero=>intro aG vK kY FL aC σ H f0 sl o h Q q0 q1;simp only [nL,reduceCtorEq]at h
  |succ k ih=>
    intro aG vK kY FL aC σ H f0 sl o h Q q0 q1;obtain⟨s0,s2,s3,s11⟩:=sl;unfold nL at h;refine aV (fun K hK=>aD ?_);unfold Rx;obtain⟨e15,h⟩:=aO h;obtain⟨Jt,e17,h⟩:=aj h;rcases av h with⟨e18,h⟩|⟨e18,h⟩
    ·obtain⟨e19,h⟩:=aO h;obtain⟨x20,e21,h⟩:=aj h;rcases av h with⟨e22,h⟩|⟨e22,h⟩
     ·obtain⟨x23,e24,h⟩:=aj h;rcases av h with⟨e25,h⟩|⟨e25,h⟩
      ·obtain rfl:=ak h;try refine ah ?_
       exact q1 _ _ rfl aN au
      ·try refine ah ?_
       refine hK _ _ ?_;exact ih aG vK kY Jt _ _ _ aN au _ h _ q0 q1
     ·try refine ah ?_
      refine hK _ _ ?_;exact ih aG vK kY Jt _ _ _ aN au _ h _ q0 q1
    ·obtain rfl:=ak h;try refine ah ?_
     exact q0 _ _ rfl aN
def Ey (k:Nat) (aG:List Nd) (dz:Int) (vK:List Int) (kY:List Int):Option Bool:=
  if 0<=dz then Option.bind (aG[dz.toNat]?) fun x2=>cond (x2.kind==24) (Option.bind (vK[dz.toNat]?) fun x5=>cond (x5==(-1)) (some true) (if 0<=x5 then Option.bind (aG[x5.toNat]?) fun x9=>cond (x9.kind !=3) (some true) (Option.bind (jV k x9.text) fun qF=>some qF.2)else none)) (cond (x2.kind==20) (Option.bind (nL k aG vK kY dz) (fun o=>Sum.elim (fun p28=>some true) (fun p32=>some p32) o)) (some false))else none
theorem acn {k:Nat} {aG:List Nd} {dz:Int} {vK:List Int} {kY:List Int} {c0 c2 c3:Ck} {r:Bool} (h:Ey k aG dz vK kY=some r):aF Tryz.prog 51 [(.aB (aG.map Nd.cells) c0),(.int .i64 dz),(.aB (vK.map aY) c2),(.aB (kY.map aY) c3)] (.bool r):=by
  refine aF.lw (.aB (.same (.aB (.aB .nil)))) (aF.aP (bg.mem (.cons (aU Nd.pu _) (.cons (.int _ _) (.cons (aU gG _) (.cons (aU gG _) .nil))))) (aH arA (by simp) (aD ?_)) (.bool _));unfold Ey at h;unfold alc;obtain⟨e1,h⟩:=aO h;obtain⟨x2,e3,h⟩:=aj h;rcases av h with⟨e4,h⟩|⟨e4,h⟩
  ·obtain⟨x5,e6,h⟩:=aj h;rcases av h with⟨e7,h⟩|⟨e7,h⟩
   ·obtain rfl:=ak h;try refine ah ?_
    exact(.pure _ (.bool _))
   ·obtain⟨e8,h⟩:=aO h;obtain⟨x9,e10,h⟩:=aj h;rcases av h with⟨e11,h⟩|⟨e11,h⟩
    ·obtain rfl:=ak h;try refine ah ?_
     exact(.pure _ (.bool _))
    ·obtain⟨qF,e12,h⟩:=aj h;try refine ah ?_
     refine aA (nS e12) ?_;obtain rfl:=ak h;try refine ah ?_
     exact(.pure _ (.bool _))
  ·rcases av h with⟨e14,h⟩|⟨e14,h⟩
   ·try refine ah ?_
    obtain⟨o26,h27,h⟩:=aj h;refine VK k aG vK kY dz _ _ _ (Fr.refl _ _) au _ h27 _ ?_ ?_
    ·rintro p28 σ' eo N7;subst eo;rw [bT]at h;obtain rfl:=ak h;try refine ah ?_
     exact(.pure _ (.bool _))
    ·rintro p32 σ' eo uh s36;subst eo;rw [bZ]at h;obtain rfl:=ak h;try refine ah ?_
     exact(.pure _ (.bool _))
   ·obtain rfl:=ak h;try refine ah ?_
    exact(.pure _ (.bool _))
def vL (k:Nat) (s_0:Str):Option Bool:=
  Option.bind (mR k s_0) fun p2=>some (!p2)
theorem TN {k:Nat} {s_0:Str} {r:Bool} (h:vL k s_0=some r):aF Tryz.prog 145 [(.str s_0)] (.bool r):=by
  refine aF.aP (bg.mem (.cons (.str _) .nil)) (aH ao4 (by simp) (aD ?_)) (.bool _);unfold vL at h;unfold ahB;obtain⟨p2,e1,h⟩:=aj h;try refine ah ?_
  refine aA (sD e1) ?_;obtain rfl:=ak h;try refine ah ?_
  exact(.pure _ (.bool _))
def bF:Nat->(List Str)->Int->Int->Option (Unit⊕Int)
  |0,_,_,_=>none
  |k+1,s_0,jJ,gL=>
    cond (decide (gL<jJ)) (if 0<=gL then Option.bind (s_0[gL.toNat]?) fun x3=>Option.bind (vL k x3) fun p6=>cond p6 (some (.inr (gL))) (bF k s_0 jJ (IntKind.wrap .i64 (gL+1)))else none) (some (.inl ()))
def jw:List Nat:=[4,5]++List.range' 8 11
theorem vM: ∀(k:Nat) (s_0:List Str) (jJ:Int) (gL:Int) (aC σ:Nat->PV) (H:AH) (f0:Fr jw aC σ) (sl:σ 0=(.aB (s_0.map aX) .unk)/\σ 1=(.fn (.func 145) [] [])/\σ 7=(.int .i64 jJ)/\σ 8=(.int .i64 gL)) (o:Unit⊕Int) (h:bF k s_0 jJ gL=some o) (Q:Post) (q0: ∀(p:Unit) (σ':Nat->PV),o= .inl p->Fr jw aC σ'->Q (.exit 0) σ' H) (q1: ∀(p:Int) (σ':Nat->PV),o= .inr (p)->Fr jw aC σ'->(σ' 4=(.int .i64 p))->Q .ret σ' H),W Tryz.prog (.loop NY) Q σ H:=by
  intro k
  induction k with
  |zero=>intro s_0 jJ gL aC σ H f0 sl o h Q q0 q1;simp only [bF,reduceCtorEq]at h
  |succ k ih=>
    intro s_0 jJ gL aC σ H f0 sl o h Q q0 q1;obtain⟨s0,s1,s7,s8⟩:=sl;unfold bF at h;refine aV (fun K hK=>aD ?_);unfold NY;rcases av h with⟨e1,h⟩|⟨e1,h⟩
    ·obtain⟨e2,h⟩:=aO h;obtain⟨x3,e4,h⟩:=aj h;obtain⟨p6,e5,h⟩:=aj h;try refine ah ?_
     refine aA (TN e5) ?_;rcases av h with⟨e7,h⟩|⟨e7,h⟩
     ·obtain rfl:=ak h;try refine ah ?_
      exact q1 _ _ rfl aN au
     ·try refine ah ?_
      refine hK _ _ ?_;exact ih s_0 jJ (IntKind.wrap .i64 (gL+1)) _ _ _ aN au _ h _ q0 q1
    ·obtain rfl:=ak h;try refine ah ?_
     exact q0 _ _ rfl aN
def gD (k:Nat) (s_0:List Str):Option Int:=
  Option.bind (bF k s_0 (s_0.length:Int) 0) (fun o=>Sum.elim (fun gT=>some (-1)) (fun kZ=>some kZ) o)
theorem xG {k:Nat} {s_0:List Str} {c0:Ck} {r:Int} (h:gD k s_0=some r):aF Tryz.prog 186 [(.aB (s_0.map aX) c0),(.fn (.func 145) [] [])] (.int .i64 r):=by
  refine aF.lw (.aB (.same .nil)) (aF.aP (bg.mem (.cons (aU bN _) (.cons (.fn _ _ _ (bg.mem .nil) (bg.mem .nil)) .nil))) (aH apd (by simp) (aD ?_)) (.int _ _));unfold gD at h;unfold ahJ;try refine ah ?_
  obtain⟨o8,h9,h⟩:=aj h;refine vM k s_0 (s_0.length:Int) 0 _ _ _ (Fr.refl _ _) au _ h9 _ ?_ ?_
  ·rintro gT σ' eo Iz;subst eo;rw [bT]at h;obtain rfl:=ak h;try refine ah ?_
   exact(.pure _ (.int _ _))
  ·rintro kZ σ' eo yh pQ;subst eo;rw [bZ]at h;obtain rfl:=ak h;try refine ah ?_
   exact(.pure _ (.int _ _))
def fC (k:Nat) (s_0:List Str):Option Bool:=
  Option.bind (gD k s_0) fun p2=>some (decide (p2>=0))
theorem vN {k:Nat} {s_0:List Str} {c0:Ck} {r:Bool} (h:fC k s_0=some r):aF Tryz.prog 144 [(.aB (s_0.map aX) c0),(.fn (.func 145) [] [])] (.bool r):=by
  refine aF.lw (.aB (.same .nil)) (aF.aP (bg.mem (.cons (aU bN _) (.cons (.fn _ _ _ (bg.mem .nil) (bg.mem .nil)) .nil))) (aH ao3 (by simp) (aD ?_)) (.bool _));unfold fC at h;unfold ahA;obtain⟨p2,e1,h⟩:=aj h;try refine ah ?_
  refine aA (xG e1) ?_;obtain rfl:=ak h;try refine ah ?_
  exact(.pure _ (.bool _))
def xL (k:Nat) (dS:Int) (eP:Int) (dR:Str) (dV:List Str) (eB:List Int) (su:Bool):Option Bool:=
  cond su (some (true)) (Option.bind (BU dR) fun p8=>cond p8 (some (false)) (Option.bind (wB k dR) fun rC=>some ((!rC))))
def Hl:List Nat:=List.range' 25 11
theorem PN (k:Nat): ∀(eT:Nat) (dS:Int) (eP:Int) (dR:Str) (dV:List Str) (eB:List Int) (su:Bool) (aC σ:Nat->PV) (H:AH) (f0:Fr Hl aC σ) (sl:σ 1=(.ref (eT) 0)/\σ 24=(.bool su)/\H.obj eT=some [(.int .i64 dS),(.int .i64 eP),(.str dR),(.aB (dV.map aX) .unk),(.aB (eB.map aY) .unk)]) (gN:eT<H.next) (o:Bool) (h:xL k dS eP dR dV eB su=some o) (Q:Post) (q0: ∀(p:Bool) (σ':Nat->PV),o=p->Fr Hl aC σ'->(σ' 35=(.bool p))->Q .normal σ' H),cO Tryz.prog Sy (Q .normal) σ H:=by
  intro eT dS eP dR dV eB su aC σ H f0 sl gN o h Q q0;obtain⟨s1,s24,Ho⟩:=sl;have Hq:=ne_next gN;have Hr:=aS gN;unfold xL at h;refine dx ?_;unfold Sy;rcases av h with⟨e6,h⟩|⟨e6,h⟩
  ·obtain rfl:=ak h;try refine ah ?_
   exact q0 _ _ rfl aN au
  ·obtain⟨p8,e7,h⟩:=aj h;try refine ah ?_
   refine aA (MX e7) ?_;rcases av h with⟨e9,h⟩|⟨e9,h⟩
   ·obtain rfl:=ak h;try refine ah ?_
    exact q0 _ _ rfl aN au
   ·obtain⟨rC,e10,h⟩:=aj h;try refine ah ?_
    refine aA (KJ e10) ?_;obtain rfl:=ak h;try refine ah ?_
    exact q0 _ _ rfl aN au
def xM (k:Nat) (dS:Int) (eP:Int) (dR:Str) (dV:List Str) (eB:List Int) (iL:Bool) (YB:Bool):Option Bool:=
  cond YB (some (true)) (cond iL (some (false)) (Option.bind (wB k dR) fun p25=>some ((!p25))))
def Ht:List Nat:=List.range' 40 9
theorem PO (k:Nat): ∀(eT:Nat) (dS:Int) (eP:Int) (dR:Str) (dV:List Str) (eB:List Int) (iL:Bool) (YB:Bool) (aC σ:Nat->PV) (H:AH) (f0:Fr Ht aC σ) (sl:σ 1=(.ref (eT) 0)/\σ 5=(.bool iL)/\σ 39=(.bool YB)/\H.obj eT=some [(.int .i64 dS),(.int .i64 eP),(.str dR),(.aB (dV.map aX) .unk),(.aB (eB.map aY) .unk)]) (gN:eT<H.next) (o:Bool) (h:xM k dS eP dR dV eB iL YB=some o) (Q:Post) (q0: ∀(p:Bool) (σ':Nat->PV),o=p->Fr Ht aC σ'->(σ' 48=(.bool p))->Q .normal σ' H),cO Tryz.prog Sz (Q .normal) σ H:=by
  intro eT dS eP dR dV eB iL YB aC σ H f0 sl gN o h Q q0;obtain⟨s1,s5,s39,Ho⟩:=sl;have Hq:=ne_next gN;have Hr:=aS gN;unfold xM at h;refine dx ?_;unfold Sz;rcases av h with⟨e22,h⟩|⟨e22,h⟩
  ·obtain rfl:=ak h;try refine ah ?_
   exact q0 _ _ rfl aN au
  ·rcases av h with⟨e23,h⟩|⟨e23,h⟩
   ·obtain rfl:=ak h;try refine ah ?_
    exact q0 _ _ rfl aN au
   ·obtain⟨p25,e24,h⟩:=aj h;try refine ah ?_
    refine aA (KJ e24) ?_;obtain rfl:=ak h;try refine ah ?_
    exact q0 _ _ rfl aN au
def xO (dS:Int) (eP:Int) (dR:Str) (dV:List Str) (eB:List Int) (zS:Str) (zT:Int) (zU:Int) (zV:Int) (zW:Bool) (xP:Int) (xQ:Int) (YC:Bool):Option Bool:=
  cond YC (Option.bind (fP (eB.length:Int) xP xQ) fun p38=>some ((!p38))) (some (false))
def Hu:List Nat:=List.range' 51 10
theorem PS: ∀(eT:Nat) (wG:Nat) (dS:Int) (eP:Int) (dR:Str) (dV:List Str) (eB:List Int) (zS:Str) (zT:Int) (zU:Int) (zV:Int) (zW:Bool) (xP:Int) (xQ:Int) (YC:Bool) (aC σ:Nat->PV) (H:AH) (f0:Fr Hu aC σ) (sl:σ 1=(.ref (eT) 0)/\σ 4=(.ref (wG) 0)/\σ 50=(.bool YC)/\H.obj eT=some [(.int .i64 dS),(.int .i64 eP),(.str dR),(.aB (dV.map aX) .unk),(.aB (eB.map aY) .unk)]/\H.obj wG=some [(.str zS),(.int .i64 zT),(.int .i64 zU),(.int .i64 zV),(.bool zW),(.int .i64 xP),(.int .i64 xQ)]) (gN:eT<H.next) (Bg:wG<H.next) (mV:eT≠wG) (o:Bool) (h:xO dS eP dR dV eB zS zT zU zV zW xP xQ YC=some o) (Q:Post) (q0: ∀(p:Bool) (σ':Nat->PV),o=p->Fr Hu aC σ'->(σ' 60=(.bool p))->Q .normal σ' H),cO Tryz.prog SA (Q .normal) σ H:=by
  intro eT wG dS eP dR dV eB zS zT zU zV zW xP xQ YC aC σ H f0 sl gN Bg mV o h Q q0;obtain⟨s1,s4,s50,Ho,ajr⟩:=sl;have Hq:=ne_next gN;have Hr:=aS gN;have ajs:=ne_next Bg;have ajt:=aS Bg;have VN:=eq_false mV;have VO:=eq_false (Ne.symm mV);unfold xO at h;refine dx ?_;unfold SA;rcases av h with⟨e36,h⟩|⟨e36,h⟩
  ·obtain⟨p38,e37,h⟩:=aj h;try refine ah ?_
   refine aA (fQ e37) ?_;obtain rfl:=ak h;try refine ah ?_
   exact q0 _ _ rfl aN au
  ·obtain rfl:=ak h;try refine ah ?_
   exact q0 _ _ rfl aN au
def xR (k:Nat) (dS:Int) (eP:Int) (dR:Str) (dV:List Str) (eB:List Int) (YD:Bool):Option Bool:=
  cond YD (some (true)) (Option.bind (mR k dR) fun p51=>some ((!p51)))
def Hw:List Nat:=[65,66,67,68,69]
theorem PU (k:Nat): ∀(eT:Nat) (dS:Int) (eP:Int) (dR:Str) (dV:List Str) (eB:List Int) (YD:Bool) (aC σ:Nat->PV) (H:AH) (f0:Fr Hw aC σ) (sl:σ 1=(.ref (eT) 0)/\σ 64=(.bool YD)/\H.obj eT=some [(.int .i64 dS),(.int .i64 eP),(.str dR),(.aB (dV.map aX) .unk),(.aB (eB.map aY) .unk)]) (gN:eT<H.next) (o:Bool) (h:xR k dS eP dR dV eB YD=some o) (Q:Post) (q0: ∀(p:Bool) (σ':Nat->PV),o=p->Fr Hw aC σ'->(σ' 69=(.bool p))->Q .normal σ' H),cO Tryz.prog SB (Q .normal) σ H:=by
  intro eT dS eP dR dV eB YD aC σ H f0 sl gN o h Q q0;obtain⟨s1,s64,Ho⟩:=sl;have Hq:=ne_next gN;have Hr:=aS gN;unfold xR at h;refine dx ?_;unfold SB;rcases av h with⟨e49,h⟩|⟨e49,h⟩
  ·obtain rfl:=ak h;try refine ah ?_
   exact q0 _ _ rfl aN au
  ·obtain⟨p51,e50,h⟩:=aj h;try refine ah ?_
   refine aA (sD e50) ?_;obtain rfl:=ak h;try refine ah ?_
   exact q0 _ _ rfl aN au
def xS (k:Nat) (dS:Int) (eP:Int) (dR:Str) (dV:List Str) (eB:List Int) (zX:Bool) (zS:Str) (zT:Int) (zU:Int) (zV:Int) (zW:Bool) (xP:Int) (xQ:Int) (iL:Bool):Option ((Bool×Bool)):=
  cond (dS==2) (Option.bind (xL k dS eP dR dV eB zX) (fun kZ=>some ((kZ,false)))) (cond (dS==3) (Option.bind (xM k dS eP dR dV eB iL zX) (fun p28=>Option.bind (xO dS eP dR dV eB zS zT zU zV zW xP xQ iL) (fun p41=>some ((p28,p41))))) (cond (dS==18) (Option.bind (xR k dS eP dR dV eB zX) (fun p54=>some ((p54,false)))) (some ((zX,false)))))
def Hy:List Nat:=[3,6]++List.range' 19 51
theorem PW (k:Nat): ∀(eT:Nat) (wG:Nat) (dS:Int) (eP:Int) (dR:Str) (dV:List Str) (eB:List Int) (zX:Bool) (zS:Str) (zT:Int) (zU:Int) (zV:Int) (zW:Bool) (xP:Int) (xQ:Int) (iL:Bool) (aC σ:Nat->PV) (H:AH) (f0:Fr Hy aC σ) (sl:σ 1=(.ref (eT) 0)/\σ 3=(.bool zX)/\σ 4=(.ref (wG) 0)/\σ 5=(.bool iL)/\σ 6=(.bool false)/\H.obj eT=some [(.int .i64 dS),(.int .i64 eP),(.str dR),(.aB (dV.map aX) .unk),(.aB (eB.map aY) .unk)]/\H.obj wG=some [(.str zS),(.int .i64 zT),(.int .i64 zU),(.int .i64 zV),(.bool zW),(.int .i64 xP),(.int .i64 xQ)]) (gN:eT<H.next) (Bg:wG<H.next) (mV:eT≠wG) (o:(Bool×Bool)) (h:xS k dS eP dR dV eB zX zS zT zU zV zW xP xQ iL=some o) (Q:Post) (q0: ∀(p:Bool×Bool) (σ':Nat->PV),o=p->Fr Hy aC σ'->(σ' 3=(.bool p.1)/\σ' 6=(.bool p.2))->Q .normal σ' H),W Tryz.prog SC Q σ H:=by
  intro eT wG dS eP dR dV eB zX zS zT zU zV zW xP xQ iL aC σ H f0 sl gN Bg mV o h Q q0;obtain⟨s1,s3,s4,s5,s6,Ho,ajr⟩:=sl;have Hq:=ne_next gN;have Hr:=aS gN;have ajs:=ne_next Bg;have ajt:=aS Bg;have VN:=eq_false mV;have VO:=eq_false (Ne.symm mV);unfold xS at h;refine aD ?_;unfold SC;rcases av h with⟨e5,h⟩|⟨e5,h⟩
  ·try refine ah ?_
   obtain⟨o12,Pp,h⟩:=aj h;refine PN k (eT) dS eP dR dV eB zX _ _ _ (Fr.refl _ _) au bO _ Pp _ ?_
   ·rintro kZ σ' eo yh pQ;rw [eo]at h;have qE:σ' 1=(.ref (eT) 0):=(yh 1 (by decide)).trans au;have s20:σ' 6=(.bool false):=(yh 6 (by decide)).trans au;obtain rfl:=ak h;try refine ah ?_
    exact q0 _ _ rfl (by repeat (first|exact f0|refine Fr.upd (by decide) ?_|refine Fr.via yh (by decide) ?_)) au
  ·rcases av h with⟨e21,h⟩|⟨e21,h⟩
   ·try refine ah ?_
    obtain⟨o26,h27,h⟩:=aj h;refine PO k (eT) dS eP dR dV eB iL zX _ _ _ (Fr.refl _ _) au bO _ h27 _ ?_
    ·rintro p28 σ' eo N7 s32;rw [eo]at h;have s33:σ' 1=(.ref (eT) 0):=(N7 1 (by decide)).trans au;have s34:σ' 4=(.ref (wG) 0):=(N7 4 (by decide)).trans au;have s35:σ' 5=(.bool iL):=(N7 5 (by decide)).trans au;try refine ah ?_
     obtain⟨o39,h40,h⟩:=aj h;refine PS (eT) (wG) dS eP dR dV eB zS zT zU zV zW xP xQ iL _ _ _ (Fr.refl _ _) au bO bO bO _ h40 _ ?_
     ·rintro p41 σ' eo CF s45;rw [eo]at h;have s46:σ' 1=(.ref (eT) 0):=(CF 1 (by decide)).trans au;have s47:σ' 3=(.bool p28):=(CF 3 (by decide)).trans au;obtain rfl:=ak h;try refine ah ?_
      exact q0 _ _ rfl (by repeat (first|exact f0|refine Fr.upd (by decide) ?_|refine Fr.via N7 (by decide) ?_|refine Fr.via CF (by decide) ?_)) au
   ·rcases av h with⟨e48,h⟩|⟨e48,h⟩
    ·try refine ah ?_
     obtain⟨o52,h53,h⟩:=aj h;refine PU k (eT) dS eP dR dV eB zX _ _ _ (Fr.refl _ _) au bO _ h53 _ ?_
     ·rintro p54 σ' eo acf s58;rw [eo]at h;have s59:σ' 1=(.ref (eT) 0):=(acf 1 (by decide)).trans au;have s60:σ' 6=(.bool false):=(acf 6 (by decide)).trans au;obtain rfl:=ak h;try refine ah ?_
      exact q0 _ _ rfl (by repeat (first|exact f0|refine Fr.upd (by decide) ?_|refine Fr.via acf (by decide) ?_)) au
    ·obtain rfl:=ak h;try refine ah ?_
     exact q0 _ _ rfl aN au
def iR:Nat->Int->Int->Str->(List Str)->(List Int)->Bool->(List Str)->Int->Int->Option Bool
  |0,_,_,_,_,_,_,_,_,_=>none
  |k+1,dS,eP,dR,dV,eB,Bh,Gu,Gv,qB=>
    cond (decide (qB<Gv)) (if 0<=qB then Option.bind (Gu[qB.toNat]?) fun x72=>cond Bh (iR k dS eP dR dV eB true Gu Gv (IntKind.wrap .i64 (qB+1))) (if 0<=qB/\qB.toNat<=dV.length then Option.bind (dB k (dV.take qB.toNat) x72) fun p77=>iR k dS eP dR dV eB p77 Gu Gv (IntKind.wrap .i64 (qB+1))else none)else none) (some (Bh))
def Hz:List Nat:=[7,8,9]++List.range' 73 15
theorem PX: ∀(k:Nat) (eT:Nat) (dS:Int) (eP:Int) (dR:Str) (dV:List Str) (eB:List Int) (Bh:Bool) (Gu:List Str) (Gv:Int) (qB:Int) (aC σ:Nat->PV) (H:AH) (f0:Fr Hz aC σ) (sl:σ 1=(.ref (eT) 0)/\σ 7=(.bool Bh)/\σ 71=(.aB (Gu.map aX) .unk)/\σ 72=(.int .i64 Gv)/\σ 73=(.int .i64 qB)/\H.obj eT=some [(.int .i64 dS),(.int .i64 eP),(.str dR),(.aB (dV.map aX) .unk),(.aB (eB.map aY) .unk)]) (gN:eT<H.next) (o:Bool) (h:iR k dS eP dR dV eB Bh Gu Gv qB=some o) (Q:Post) (q0: ∀(p:Bool) (σ':Nat->PV),o=p->Fr Hz aC σ'->(σ' 7=(.bool p))->Q (.exit 1) σ' H),W Tryz.prog (.loop SE) Q σ H:=by
  intro k
  induction k with
  |zero=>intro eT dS eP dR dV eB Bh Gu Gv qB aC σ H f0 sl gN o h Q q0;simp only [iR,reduceCtorEq]at h
  |succ k ih=>
    intro eT dS eP dR dV eB Bh Gu Gv qB aC σ H f0 sl gN o h Q q0;obtain⟨s1,s7,s71,s72,Xx,Ho⟩:=sl;have Hq:=ne_next gN;have Hr:=aS gN;unfold iR at h;refine aV (fun K hK=>aD ?_);unfold SE;rcases av h with⟨e70,h⟩|⟨e70,h⟩
    ·obtain⟨e71,h⟩:=aO h;obtain⟨x72,Pq,h⟩:=aj h;rcases av h with⟨e74,h⟩|⟨e74,h⟩
     ·try refine ah ?_
      refine hK _ _ ?_;exact ih eT dS eP dR dV eB true Gu Gv (IntKind.wrap .i64 (qB+1)) _ _ _ aN au bO _ h _ q0
     ·obtain⟨Kk,h⟩:=aO h;obtain⟨p77,MK,h⟩:=aj h;try refine ah ?_
      refine aA (iP MK) ?_;try refine ah ?_
      refine hK _ _ ?_;exact ih eT dS eP dR dV eB p77 Gu Gv (IntKind.wrap .i64 (qB+1)) _ _ _ aN au bO _ h _ q0
    ·obtain rfl:=ak h;try refine ah ?_
     exact q0 _ _ rfl aN au
def nD (k:Nat) (bA:Nd):Option Int:=
  Option.bind (fC k bA.names) fun p2=>Option.bind (jV k bA.text) fun p4=>Option.bind (xS k bA.kind bA.n bA.text bA.names bA.args p2 p4.1.text p4.1.fix p4.1.low p4.1.high p4.1.left p4.1.least p4.1.most p4.2) (fun p63=>Option.bind (iR k bA.kind bA.n bA.text bA.names bA.args false bA.names (bA.names.length:Int) 0) (fun wS=>Option.bind (kE p63.1 7) fun p88=>Option.bind (kE p63.2 17) fun p90=>Option.bind (kE wS 12) fun YE=>Option.bind (fG k [p88,p90,YE]) fun GU=>some GU))
theorem zY {k:Nat} {bA:Nd} {r:Int} (h:nD k bA=some r):aF Tryz.prog 93 [(.agg (Nd.cells bA))] (.int .i64 r):=by
  refine aF.aP (bg.mem (.cons (.agg _ (Nd.pu _)) .nil)) (aH arZ (by simp) (aD ?_)) (.int _ _);unfold nD at h;unfold alN;obtain⟨p2,e1,h⟩:=aj h;try refine ah ?_
  refine aA (vN e1) ?_;obtain⟨p4,e3,h⟩:=aj h;try refine ah ?_
  refine aA (nS e3) ?_;try refine ah ?_
  obtain⟨o61,h62,h⟩:=aj h;refine PW k (AH.empty.next) (AH.empty.next+1) bA.kind bA.n bA.text bA.names bA.args p2 p4.1.text p4.1.fix p4.1.low p4.1.high p4.1.left p4.1.least p4.1.most p4.2 _ _ _ (Fr.refl _ _) au bO bO bO _ h62 _ ?_
  ·rintro p63 σ' eo Gl ⟨s67,s68⟩;rw [eo]at h;have s69:σ' 1=(.ref (AH.empty.next) 0):=(Gl 1 (by decide)).trans au;try refine ah ?_
   obtain⟨o78,Yz,h⟩:=aj h;refine PX k (AH.empty.next) bA.kind bA.n bA.text bA.names bA.args false bA.names (bA.names.length:Int) 0 _ _ _ (Fr.refl _ _) au bO _ Yz _ ?_
   ·rintro wS σ' eo zL s84;rw [eo]at h;have s85:σ' 3=(.bool p63.1):=(zL 3 (by decide)).trans au;have s86:σ' 6=(.bool p63.2):=(zL 6 (by decide)).trans au;obtain⟨p88,e87,h⟩:=aj h;try refine ah ?_
    refine aA (jI e87) ?_;obtain⟨p90,Kl,h⟩:=aj h;try refine ah ?_
    refine aA (jI Kl) ?_;obtain⟨YE,Pn,h⟩:=aj h;try refine ah ?_
    refine aA (jI Pn) ?_;obtain⟨GU,Kn,h⟩:=aj h;try refine ah ?_
    refine aA (jk Kn) ?_;obtain rfl:=ak h;try refine ah ?_
    exact(.pure _ (.int _ _))
def zZ (mJ:Int) (jL:Int) (lY:Str) (qH:List Str) (lH:List Int) (Dm:Int) (Dn:Int) (BF:Int) (BG:Int) (Dp:Bool) (z8:Bool) (YF:Bool):Option Bool:=
  cond YF (some (true)) (Option.bind (fP (lH.length:Int) BF BG) fun qF=>some ((!qF)))
def Ju:List Nat:=List.range' 37 12
theorem TP: ∀(jy:Nat) (Aa:Nat) (mJ:Int) (jL:Int) (lY:Str) (qH:List Str) (lH:List Int) (Dm:Int) (Dn:Int) (BF:Int) (BG:Int) (Dp:Bool) (z8:Bool) (YF:Bool) (aC σ:Nat->PV) (H:AH) (f0:Fr Ju aC σ) (sl:σ 7=(.ref (jy) 0)/\σ 8=(.ref (Aa) 0)/\σ 36=(.bool YF)/\H.obj jy=some [(.int .i64 mJ),(.int .i64 jL),(.str lY),(.aB (qH.map aX) .unk),(.aB (lH.map aY) .unk)]/\H.obj Aa=some [(.int .i64 Dm),(.int .i64 Dn),(.int .i64 BF),(.int .i64 BG),(.bool Dp),(.bool z8)]) (qZ:jy<H.next) (Bj:Aa<H.next) (mW:jy≠Aa) (o:Bool) (h:zZ mJ jL lY qH lH Dm Dn BF BG Dp z8 YF=some o) (Q:Post) (q0: ∀(p:Bool) (σ':Nat->PV),o=p->Fr Ju aC σ'->(σ' 48=(.bool p))->Q .normal σ' H),cO Tryz.prog Rq (Q .normal) σ H:=by
  intro jy Aa mJ jL lY qH lH Dm Dn BF BG Dp z8 YF aC σ H f0 sl qZ Bj mW o h Q q0;obtain⟨s7,s8,s36,aaY,aju⟩:=sl;have aaZ:=ne_next qZ;have aa0:=aS qZ;have ajv:=ne_next Bj;have ajw:=aS Bj;have VP:=eq_false mW;have VQ:=eq_false (Ne.symm mW);unfold zZ at h;refine dx ?_;unfold Rq;rcases av h with⟨e11,h⟩|⟨e11,h⟩
  ·obtain rfl:=ak h;try refine ah ?_
   exact q0 _ _ rfl aN au
  ·obtain⟨qF,e12,h⟩:=aj h;try refine ah ?_
   refine aA (fQ e12) ?_;obtain rfl:=ak h;try refine ah ?_
   exact q0 _ _ rfl aN au
def mo:Nat->(List Int)->Int->Bool->(List Int)->Option ((Int×Bool)⊕(Int×Bool))
  |0,gZ,je,dZ,mX=>some (.inr ((je,dZ)))
  |m+1,gZ,je,dZ,mX=>
    Option.bind (mX[m]?) fun x27=>cond (x27 !=je) (some (.inl (je,false))) (cond (decide (je<0)) (some (.inl (je,false))) (if 0<=je then Option.bind (gZ[je.toNat]?) fun x31=>mo m gZ (IntKind.wrap .i64 (x31 -1)) dZ mX else none))
theorem TQ: ∀(m:Nat) (fM:Nat) (fU:Nat) (bq:Nat) (qC:Nat) (gZ:List Int) (je:Int) (dZ:Bool) (mX:List Int) (aC σ:Nat->PV) (H0 H:AH) (f0:Fr [] aC σ) (hf0:HF [fU,bq] H0 H) (sl:σ 5=(.ref (fM) 0)/\σ 9=(.ref (fU) 0)/\σ 10=(.ref (bq) 0)/\σ 53=(.fn (.func 141) [] [(.ref (qC) 0)])/\H.obj fM=some [(.aB (gZ.map aY) .unk)]/\H.obj fU=some [(.int .i64 je)]/\H.obj bq=some [(.bool dZ)]/\H.obj qC=some [(.aB (mX.map aY) .unk)]) (jW:fM<H.next) (nM:fU<H.next) (iH:bq<H.next) (wH:qC<H.next) (eD:fM≠fU) (bY:fM≠bq) (jf:fM≠qC) (dF:fU≠bq) (kI:fU≠qC) (iF:bq≠qC) (o:(Int×Bool)⊕(Int×Bool)) (h:mo m gZ je dZ mX=some o) (Q:Post) (q0: ∀(p:Int×Bool) (σ':Nat->PV) (H':AH),o= .inl p->Fr [] aC σ'->HF [fU,bq] H0 H'->(H'.obj fU=some [(.int .i64 p.1)]/\H'.obj bq=some [(.bool p.2)])->Q (.exit 0) σ' H') (q1: ∀(p:Int×Bool) (σ':Nat->PV) (H':AH),o= .inr (p)->Fr [] aC σ'->HF [fU,bq] H0 H'->(H'.obj fU=some [(.int .i64 p.1)]/\H'.obj bq=some [(.bool p.2)])->Q .normal σ' H'),Fj (fun Q' σ' H'=>W Tryz.prog Nu (Iu (fun xZ iO=>W Tryz.prog Nv Q' xZ iO)) σ' H') Q σ qC [(.aB (mX.map aY) .unk)] 54 55 ((mX.map aY).map (C9 false)) m H:=by
  intro m
  induction m with
  |zero=>
    intro fM fU bq qC gZ je dZ mX aC σ H0 H f0 hf0 sl jW nM iH wH eD bY jf dF kI iF o h Q q0 q1;obtain⟨s5,s9,s10,s53,KM,UU,FM,PY⟩:=sl;have KN:=ne_next jW;have KO:=aS jW;have UW:=ne_next nM;have UY:=aS nM;have FN:=ne_next iH;have FP:=aS iH;have aco:=ne_next wH;have acp:=aS wH;have Ab:=eq_false eD;have Ac:=eq_false (Ne.symm eD);have tC:=eq_false bY;have tF:=eq_false (Ne.symm bY);have HV:=eq_false jf;have HY:=eq_false (Ne.symm jf);have wU:=eq_false dF;have wV:=eq_false (Ne.symm dF);have KP:=eq_false kI;have KQ:=eq_false (Ne.symm kI);have Ez:=eq_false iF;have EA:=eq_false (Ne.symm iF);have hle0:=hf0.1;rw [mo]at h;cases h;exact q1 _ _ _ rfl f0 hf0 au
  |succ m ih=>
    intro fM fU bq qC gZ je dZ mX aC σ H0 H f0 hf0 sl jW nM iH wH eD bY jf dF kI iF o h Q q0 q1;obtain⟨s5,s9,s10,s53,KM,UU,FM,PY⟩:=sl;have KN:=ne_next jW;have KO:=aS jW;have UW:=ne_next nM;have UY:=aS nM;have FN:=ne_next iH;have FP:=aS iH;have aco:=ne_next wH;have acp:=aS wH;have Ab:=eq_false eD;have Ac:=eq_false (Ne.symm eD);have tC:=eq_false bY;have tF:=eq_false (Ne.symm bY);have HV:=eq_false jf;have HY:=eq_false (Ne.symm jf);have wU:=eq_false dF;have wV:=eq_false (Ne.symm dF);have KP:=eq_false kI;have KQ:=eq_false (Ne.symm kI);have Ez:=eq_false iF;have EA:=eq_false (Ne.symm iF);have hle0:=hf0.1;rw [mo]at h;cases erf:mX[m]?
    case none=>rw [yY erf]at h;cases h
    case some x27=>
      rw [yZ erf]at h;refine⟨PY,C9 false (aY x27),by simp only [List.getElem?_map,erf,Option.map_some],aD ?_⟩;unfold Nu;try refine ah ?_
      refine aD ?_;unfold Nv;rcases av h with⟨e28,h⟩|⟨e28,h⟩
      ·obtain rfl:=ak h;try refine ah ?_
       exact q0 _ _ _ rfl aN (by repeat (first|exact hf0|refine HF.new ?_|refine HF.eG ?_|refine HF.used ?_|refine HF.put (by first|(right;omega)|(left;simp only [List.mem_cons,true_or,or_true])) ?_)) au
      ·rcases av h with⟨e29,h⟩|⟨e29,h⟩
       ·obtain rfl:=ak h;try refine ah ?_
        exact q0 _ _ _ rfl aN (by repeat (first|exact hf0|refine HF.new ?_|refine HF.eG ?_|refine HF.used ?_|refine HF.put (by first|(right;omega)|(left;simp only [List.mem_cons,true_or,or_true])) ?_)) au
       ·obtain⟨e30,h⟩:=aO h;obtain⟨x31,e32,h⟩:=aj h;try refine ah ?_
        exact ih fM fU bq qC gZ (IntKind.wrap .i64 (x31 -1)) dZ mX _ _ _ _ f0 (by repeat (first|exact hf0|refine HF.new ?_|refine HF.eG ?_|refine HF.used ?_|refine HF.put (by first|(right;omega)|(left;simp only [List.mem_cons,true_or,or_true])) ?_)) au bO bO bO bO bO bO bO bO bO bO _ h _ q0 q1
def vO (gZ:List Int) (mJ:Int) (jL:Int) (lY:Str) (qH:List Str) (lH:List Int) (je:Int) (dZ:Bool):Option ((Int×Bool)):=
  if lH.length<=1099511627776 then Option.bind (mo lH.length gZ je dZ lH) (fun o=>Sum.elim (fun p35=>some ((p35.1,p35.2))) (fun p49=>some ((p49.1,p49.2))) o)else none
def Jv:List Nat:=[12]++List.range' 51 17
theorem TS: ∀(fM:Nat) (jy:Nat) (fU:Nat) (bq:Nat) (gZ:List Int) (mJ:Int) (jL:Int) (lY:Str) (qH:List Str) (lH:List Int) (je:Int) (dZ:Bool) (aC σ:Nat->PV) (H0 H:AH) (f0:Fr Jv aC σ) (hf0:HF [fU,bq] H0 H) (sl:σ 5=(.ref (fM) 0)/\σ 7=(.ref (jy) 0)/\σ 9=(.ref (fU) 0)/\σ 10=(.ref (bq) 0)/\H.obj fM=some [(.aB (gZ.map aY) .unk)]/\H.obj jy=some [(.int .i64 mJ),(.int .i64 jL),(.str lY),(.aB (qH.map aX) .unk),(.aB (lH.map aY) .unk)]/\H.obj fU=some [(.int .i64 je)]/\H.obj bq=some [(.bool dZ)]) (jW:fM<H.next) (qZ:jy<H.next) (nM:fU<H.next) (iH:bq<H.next) (vP:fM≠jy) (eD:fM≠fU) (bY:fM≠bq) (Ad:jy≠fU) (q8:jy≠bq) (dF:fU≠bq) (o:(Int×Bool)) (h:vO gZ mJ jL lY qH lH je dZ=some o) (Q:Post) (q0: ∀(p:Int×Bool) (σ':Nat->PV) (H':AH),o=p->Fr Jv aC σ'->HF [fU,bq] H0 H'->(H'.obj fU=some [(.int .i64 p.1)]/\H'.obj bq=some [(.bool p.2)])->Q .normal σ' H'),W Tryz.prog Rt Q σ H:=by
  intro fM jy fU bq gZ mJ jL lY qH lH je dZ aC σ H0 H f0 hf0 sl jW qZ nM iH vP eD bY Ad q8 dF o h Q q0;obtain⟨s5,s7,s9,s10,KM,aaY,UU,FM⟩:=sl;have KN:=ne_next jW;have KO:=aS jW;have aaZ:=ne_next qZ;have aa0:=aS qZ;have UW:=ne_next nM;have UY:=aS nM;have FN:=ne_next iH;have FP:=aS iH;have aeh:=eq_false vP;have aei:=eq_false (Ne.symm vP);have Ab:=eq_false eD;have Ac:=eq_false (Ne.symm eD);have tC:=eq_false bY;have tF:=eq_false (Ne.symm bY);have aia:=eq_false Ad;have aib:=eq_false (Ne.symm Ad);have aa1:=eq_false q8;have aa2:=eq_false (Ne.symm q8);have wU:=eq_false dF;have wV:=eq_false (Ne.symm dF);have hle0:=hf0.1;unfold vO at h;refine aD ?_;unfold Rt;try refine ah ?_
  refine aH arX (by simp) (aD ?_);unfold alL;obtain⟨e63,h⟩:=aO h;try refine ah ?_
  obtain⟨o33,h34,h⟩:=aj h;refine aoA (g:=141) (id:=H.next) (sz:=1) (agg:=false) (es:=lH.map aY) (c:= .unk) au aef af2 (by decide) au (by rw [List.length_map];exact e63) (Ke (rR.len (f:=aY)) _) ?_;rw [List.length_map];refine TQ _ (fM) (fU) (bq) (H.next) gZ je dZ lH _ _ _ _ (Fr.refl _ _) (HF.refl _ _) au bO bO bO bO bO bO bO bO bO bO _ h34 _ ?_ ?_
  ·rintro p35 σ' H38 eo af4 Ol ⟨g39,g40⟩;subst eo;rw [bT]at h;have s41:σ' 7=(.ref (jy) 0):=(af4 7 (by decide)).trans au;have s42:σ' 10=(.ref (bq) 0):=(af4 10 (by decide)).trans au;have le:=Ol.1;try simp only [AH.aI,AH.aJ,AH.aL,AH.aM]at le
   have g43:H38.obj (jy)=some [(.int .i64 mJ),(.int .i64 jL),(.str lY),(.aB (qH.map aX) .unk),(.aB (lH.map aY) .unk)]:=(Ol.2 _ bO (by first|exact List.not_mem_nil|(simp only [List.mem_cons,List.not_mem_nil,or_false,not_or];omega))).trans au;have n44:=ne_next (show jy<H38.next by first|omega|(simp only [AH.aI,AH.aJ,AH.aL,AH.aM];omega));have m45:=aS (show jy<H38.next by first|omega|(simp only [AH.aI,AH.aJ,AH.aL,AH.aM];omega));have n47:=ne_next (show bq<H38.next by first|omega|(simp only [AH.aI,AH.aJ,AH.aL,AH.aM];omega));have m48:=aS (show bq<H38.next by first|omega|(simp only [AH.aI,AH.aJ,AH.aL,AH.aM];omega));obtain rfl:=ak h;try refine ah ?_
   exact q0 _ _ _ rfl (by repeat (first|exact f0|refine Fr.upd (by decide) ?_|refine Fr.via af4 (by decide) ?_)) (by repeat (first|exact hf0|refine HF.new ?_|refine HF.eG ?_|refine HF.used ?_|refine HF.put (by first|(right;omega)|(left;simp only [List.mem_cons,true_or,or_true])) ?_|refine HF.via Ol (by first|exact fun i hi=>absurd hi List.not_mem_nil|(intro i hi;simp only [List.mem_cons,List.not_mem_nil,or_false]at hi⊢;first|exact .inl hi|omega)) ?_)) au
  ·rintro p49 σ' H52 eo Kt YG ⟨g53,g54⟩;subst eo;rw [bZ]at h;have s55:σ' 7=(.ref (jy) 0):=(Kt 7 (by decide)).trans au;have s56:σ' 10=(.ref (bq) 0):=(Kt 10 (by decide)).trans au;have le:=YG.1;try simp only [AH.aI,AH.aJ,AH.aL,AH.aM]at le
   have g57:H52.obj (jy)=some [(.int .i64 mJ),(.int .i64 jL),(.str lY),(.aB (qH.map aX) .unk),(.aB (lH.map aY) .unk)]:=(YG.2 _ bO (by first|exact List.not_mem_nil|(simp only [List.mem_cons,List.not_mem_nil,or_false,not_or];omega))).trans au;have n58:=ne_next (show jy<H52.next by first|omega|(simp only [AH.aI,AH.aJ,AH.aL,AH.aM];omega));have m59:=aS (show jy<H52.next by first|omega|(simp only [AH.aI,AH.aJ,AH.aL,AH.aM];omega));have n61:=ne_next (show bq<H52.next by first|omega|(simp only [AH.aI,AH.aJ,AH.aL,AH.aM];omega));have m62:=aS (show bq<H52.next by first|omega|(simp only [AH.aI,AH.aJ,AH.aL,AH.aM];omega));obtain rfl:=ak h;try refine ah ?_
   exact q0 _ _ _ rfl (by repeat (first|exact f0|refine Fr.upd (by decide) ?_|refine Fr.via Kt (by decide) ?_)) (by repeat (first|exact hf0|refine HF.new ?_|refine HF.eG ?_|refine HF.used ?_|refine HF.put (by first|(right;omega)|(left;simp only [List.mem_cons,true_or,or_true])) ?_|refine HF.via YG (by first|exact fun i hi=>absurd hi List.not_mem_nil|(intro i hi;simp only [List.mem_cons,List.not_mem_nil,or_false]at hi⊢;first|exact .inl hi|omega)) ?_)) au
def Ae (mJ:Int) (jL:Int) (lY:Str) (qH:List Str) (lH:List Int) (Dm:Int) (Dn:Int) (BF:Int) (BG:Int) (Dp:Bool) (z8:Bool) (tH:Bool) (qB:Bool):Option Bool:=
  cond qB (cond z8 (cond (mJ !=1) (cond tH (Option.bind (fP jL 0 1) fun Pw=>some (Pw)) (some (true))) (Option.bind (vD lY) fun kN=>cond kN (cond tH (Option.bind (fP jL 0 1) fun Px=>some (Px)) (some (true))) (some (false)))) (cond (jL==0) (cond (mJ !=1) (cond tH (Option.bind (fP jL 0 1) fun XF=>some (XF)) (some (true))) (Option.bind (vD lY) fun Om=>cond Om (cond tH (Option.bind (fP jL 0 1) fun EB=>some (EB)) (some (true))) (some (false)))) (some (false)))) (cond (lY==[]) (cond z8 (cond (mJ !=1) (cond tH (Option.bind (fP jL 0 1) fun CK=>some (CK)) (some (true))) (Option.bind (vD lY) fun XH=>cond XH (cond tH (Option.bind (fP jL 0 1) fun Gi=>some (Gi)) (some (true))) (some (false)))) (cond (jL==0) (cond (mJ !=1) (cond tH (Option.bind (fP jL 0 1) fun ank=>some (ank)) (some (true))) (Option.bind (vD lY) fun anl=>cond anl (cond tH (Option.bind (fP jL 0 1) fun anm=>some (anm)) (some (true))) (some (false)))) (some (false)))) (some (false)))
def Jw:List Nat:=List.range' 74 32
theorem TT: ∀(jy:Nat) (Aa:Nat) (mJ:Int) (jL:Int) (lY:Str) (qH:List Str) (lH:List Int) (Dm:Int) (Dn:Int) (BF:Int) (BG:Int) (Dp:Bool) (z8:Bool) (tH:Bool) (qB:Bool) (aC σ:Nat->PV) (H:AH) (f0:Fr Jw aC σ) (sl:σ 7=(.ref (jy) 0)/\σ 8=(.ref (Aa) 0)/\σ 13=(.bool tH)/\σ 73=(.bool qB)/\H.obj jy=some [(.int .i64 mJ),(.int .i64 jL),(.str lY),(.aB (qH.map aX) .unk),(.aB (lH.map aY) .unk)]/\H.obj Aa=some [(.int .i64 Dm),(.int .i64 Dn),(.int .i64 BF),(.int .i64 BG),(.bool Dp),(.bool z8)]) (qZ:jy<H.next) (Bj:Aa<H.next) (mW:jy≠Aa) (o:Bool) (h:Ae mJ jL lY qH lH Dm Dn BF BG Dp z8 tH qB=some o) (Q:Post) (q0: ∀(p:Bool) (σ':Nat->PV),o=p->Fr Jw aC σ'->(σ' 105=(.bool p))->Q .normal σ' H),cO Tryz.prog Ru (Q .normal) σ H:=by
  intro jy Aa mJ jL lY qH lH Dm Dn BF BG Dp z8 tH qB aC σ H f0 sl qZ Bj mW o h Q q0;obtain⟨s7,s8,s13,Xx,aaY,aju⟩:=sl;have aaZ:=ne_next qZ;have aa0:=aS qZ;have ajv:=ne_next Bj;have ajw:=aS Bj;have VP:=eq_false mW;have VQ:=eq_false (Ne.symm mW);unfold Ae at h;refine dx ?_;unfold Ru;rcases av h with⟨e84,h⟩|⟨e84,h⟩
  ·rcases av h with⟨e85,h⟩|⟨e85,h⟩
   ·rcases av h with⟨Pj,h⟩|⟨Pj,h⟩
    ·rcases av h with⟨e87,h⟩|⟨e87,h⟩
     ·obtain⟨Pw,Pk,h⟩:=aj h;try refine ah ?_
      refine aA (fQ Pk) ?_;obtain rfl:=ak h;try refine ah ?_
      exact q0 _ _ rfl aN au
     ·obtain rfl:=ak h;try refine ah ?_
      exact q0 _ _ rfl aN au
    ·obtain⟨kN,Pm,h⟩:=aj h;try refine ah ?_
     refine aA (Dl Pm) ?_;rcases av h with⟨e92,h⟩|⟨e92,h⟩
     ·rcases av h with⟨Kn,h⟩|⟨Kn,h⟩
      ·obtain⟨Px,e94,h⟩:=aj h;try refine ah ?_
       refine aA (fQ e94) ?_;obtain rfl:=ak h;try refine ah ?_
       exact q0 _ _ rfl aN au
      ·obtain rfl:=ak h;try refine ah ?_
       exact q0 _ _ rfl aN au
     ·obtain rfl:=ak h;try refine ah ?_
      exact q0 _ _ rfl aN au
   ·rcases av h with⟨UG,h⟩|⟨UG,h⟩
    ·rcases av h with⟨e97,h⟩|⟨e97,h⟩
     ·rcases av h with⟨e98,h⟩|⟨e98,h⟩
      ·obtain⟨XF,e99,h⟩:=aj h;try refine ah ?_
       refine aA (fQ e99) ?_;obtain rfl:=ak h;try refine ah ?_
       exact q0 _ _ rfl aN au
      ·obtain rfl:=ak h;try refine ah ?_
       exact q0 _ _ rfl aN au
     ·obtain⟨Om,N9,h⟩:=aj h;try refine ah ?_
      refine aA (Dl N9) ?_;rcases av h with⟨IC,h⟩|⟨IC,h⟩
      ·rcases av h with⟨Yq,h⟩|⟨Yq,h⟩
       ·obtain⟨EB,Ko,h⟩:=aj h;try refine ah ?_
        refine aA (fQ Ko) ?_;obtain rfl:=ak h;try refine ah ?_
        exact q0 _ _ rfl aN au
       ·obtain rfl:=ak h;try refine ah ?_
        exact q0 _ _ rfl aN au
      ·obtain rfl:=ak h;try refine ah ?_
       exact q0 _ _ rfl aN au
    ·obtain rfl:=ak h;try refine ah ?_
     exact q0 _ _ rfl aN au
  ·rcases av h with⟨Er,h⟩|⟨Er,h⟩
   ·rcases av h with⟨e108,h⟩|⟨e108,h⟩
    ·rcases av h with⟨e109,h⟩|⟨e109,h⟩
     ·rcases av h with⟨Kq,h⟩|⟨Kq,h⟩
      ·obtain⟨CK,Oa,h⟩:=aj h;try refine ah ?_
       refine aA (fQ Oa) ?_;obtain rfl:=ak h;try refine ah ?_
       exact q0 _ _ rfl aN au
      ·obtain rfl:=ak h;try refine ah ?_
       exact q0 _ _ rfl aN au
     ·obtain⟨XH,Ob,h⟩:=aj h;try refine ah ?_
      refine aA (Dl Ob) ?_;rcases av h with⟨e115,h⟩|⟨e115,h⟩
      ·rcases av h with⟨e116,h⟩|⟨e116,h⟩
       ·obtain⟨Gi,e117,h⟩:=aj h;try refine ah ?_
        refine aA (fQ e117) ?_;obtain rfl:=ak h;try refine ah ?_
        exact q0 _ _ rfl aN au
       ·obtain rfl:=ak h;try refine ah ?_
        exact q0 _ _ rfl aN au
      ·obtain rfl:=ak h;try refine ah ?_
       exact q0 _ _ rfl aN au
    ·rcases av h with⟨e119,h⟩|⟨e119,h⟩
     ·rcases av h with⟨e120,h⟩|⟨e120,h⟩
      ·rcases av h with⟨af5,h⟩|⟨af5,h⟩
       ·obtain⟨ank,XM,h⟩:=aj h;try refine ah ?_
        refine aA (fQ XM) ?_;obtain rfl:=ak h;try refine ah ?_
        exact q0 _ _ rfl aN au
       ·obtain rfl:=ak h;try refine ah ?_
        exact q0 _ _ rfl aN au
      ·obtain⟨anl,anp,h⟩:=aj h;try refine ah ?_
       refine aA (Dl anp) ?_;rcases av h with⟨e126,h⟩|⟨e126,h⟩
       ·rcases av h with⟨e127,h⟩|⟨e127,h⟩
        ·obtain⟨anm,e128,h⟩:=aj h;try refine ah ?_
         refine aA (fQ e128) ?_;obtain rfl:=ak h;try refine ah ?_
         exact q0 _ _ rfl aN au
        ·obtain rfl:=ak h;try refine ah ?_
         exact q0 _ _ rfl aN au
       ·obtain rfl:=ak h;try refine ah ?_
        exact q0 _ _ rfl aN au
     ·obtain rfl:=ak h;try refine ah ?_
      exact q0 _ _ rfl aN au
   ·obtain rfl:=ak h;try refine ah ?_
    exact q0 _ _ rfl aN au
def BZ (k:Nat) (aG:List Nd) (dz:Int) (qA:List Int):Option Int:=
  if 0<=dz then Option.bind (aG[dz.toNat]?) fun x2=>Option.bind (fP x2.kind 0 28) fun p5=>cond p5 (Option.bind (yN k x2) fun p8=>Option.bind (fP (x2.names.length:Int) p8.names.1 p8.names.2) fun gT=>Option.bind (zZ x2.kind x2.n x2.text x2.names x2.args p8.names.1 p8.names.2 p8.operands.1 p8.operands.2 p8.text p8.number (!gT)) (fun p16=>cond p16 (some 6) (Option.bind (vO qA x2.kind x2.n x2.text x2.names x2.args (IntKind.wrap .i64 (dz -1)) true) (fun p66=>Option.bind (Ae x2.kind x2.n x2.text x2.names x2.args p8.names.1 p8.names.2 p8.operands.1 p8.operands.2 p8.text p8.number (x2.kind==23) p8.text) (fun TU=>cond p66.2 (Option.bind (kE (!TU) 5) fun af6=>cond (x2.kind==23) (Option.bind (kE false 3) fun anq=>Option.bind (nD k x2) fun anr=>Option.bind (fG k [af6,anq,anr]) fun ant=>some ant) (Option.bind (fP x2.n 0 10000) fun anu=>Option.bind (kE (!anu) 3) fun XP=>Option.bind (nD k x2) fun anv=>Option.bind (fG k [af6,XP,anv]) fun anw=>some anw)) (Option.bind (kE true 5) fun af7=>cond (x2.kind==23) (Option.bind (kE false 3) fun anx=>Option.bind (nD k x2) fun anz=>Option.bind (fG k [af7,anx,anz]) fun anA=>some anA) (Option.bind (fP x2.n 0 10000) fun XQ=>Option.bind (kE (!XQ) 3) fun anB=>Option.bind (nD k x2) fun abW=>Option.bind (fG k [af7,anB,abW]) fun anC=>some anC))))))) (some 4)else none
theorem aad {k:Nat} {aG:List Nd} {dz:Int} {qA:List Int} {c0 c2:Ck} {r:Int} (h:BZ k aG dz qA=some r):aF Tryz.prog 48 [(.aB (aG.map Nd.cells) c0),(.int .i64 dz),(.aB (qA.map aY) c2)] (.int .i64 r):=by
  refine aF.lw (.aB (.same (.aB .nil))) (aF.aP (bg.mem (.cons (aU Nd.pu _) (.cons (.int _ _) (.cons (aU gG _) .nil)))) (aH arw (by simp) (aD ?_)) (.int _ _));unfold BZ at h;unfold ak9;obtain⟨e1,h⟩:=aO h;obtain⟨x2,e3,h⟩:=aj h;obtain⟨p5,e4,h⟩:=aj h;try refine ah ?_
  refine aA (fQ e4) ?_;rcases av h with⟨e6,h⟩|⟨e6,h⟩
  ·obtain⟨p8,e7,h⟩:=aj h;try refine ah ?_
   refine aA (aac e7) ?_;obtain⟨gT,e9,h⟩:=aj h;try refine ah ?_
   refine aA (fQ e9) ?_;try refine ah ?_
   obtain⟨o14,h15,h⟩:=aj h;refine TP (AH.empty.next+1) (AH.empty.next+2) x2.kind x2.n x2.text x2.names x2.args p8.names.1 p8.names.2 p8.operands.1 p8.operands.2 p8.text p8.number (!gT) _ _ _ (Fr.refl _ _) au bO bO bO _ h15 _ ?_
   ·rintro p16 σ' eo XB s20;rw [eo]at h;have s21:σ' 1=(.int .i64 dz):=(XB 1 (by decide)).trans au;have Xw:σ' 5=(.ref (AH.empty.next) 0):=(XB 5 (by decide)).trans au;have Ph:σ' 7=(.ref (AH.empty.next+1) 0):=(XB 7 (by decide)).trans au;have s24:σ' 8=(.ref (AH.empty.next+2) 0):=(XB 8 (by decide)).trans au;rcases av h with⟨e25,h⟩|⟨e25,h⟩
    ·obtain rfl:=ak h;try refine ah ?_
     exact(.pure _ (.int _ _))
    ·try refine ah ?_
     obtain⟨o64,h65,h⟩:=aj h;refine TS (AH.empty.next) (AH.empty.next+1) (AH.empty.next+3) (AH.empty.next+4) qA x2.kind x2.n x2.text x2.names x2.args (IntKind.wrap .i64 (dz -1)) true _ _ _ _ (Fr.refl _ _) (HF.refl _ _) au bO bO bO bO bO bO bO bO bO bO _ h65 _ ?_
     ·rintro p66 σ' UZ eo KL TV ⟨g70,g71⟩;rw [eo]at h;have s72:σ' 7=(.ref (AH.empty.next+1) 0):=(KL 7 (by decide)).trans au;have Xx:σ' 8=(.ref (AH.empty.next+2) 0):=(KL 8 (by decide)).trans au;have s74:σ' 10=(.ref (AH.empty.next+4) 0):=(KL 10 (by decide)).trans au;have le:=TV.1;try simp only [AH.aI,AH.aJ,AH.aL,AH.aM]at le
      have g75:UZ.obj (AH.empty.next+1)=some [(.int .i64 x2.kind),(.int .i64 x2.n),(.str x2.text),(.aB (x2.names.map aX) .unk),(.aB (x2.args.map aY) .unk)]:=(TV.2 _ bO (by first|exact List.not_mem_nil|(simp only [List.mem_cons,List.not_mem_nil,or_false,not_or];omega))).trans au;have n76:=ne_next (show AH.empty.next+1<UZ.next by first|omega|(simp only [AH.aI,AH.aJ,AH.aL,AH.aM];omega));have m77:=aS (show AH.empty.next+1<UZ.next by first|omega|(simp only [AH.aI,AH.aJ,AH.aL,AH.aM];omega));have g78:UZ.obj (AH.empty.next+2)=some [(.int .i64 p8.names.1),(.int .i64 p8.names.2),(.int .i64 p8.operands.1),(.int .i64 p8.operands.2),(.bool p8.text),(.bool p8.number)]:=(TV.2 _ bO (by first|exact List.not_mem_nil|(simp only [List.mem_cons,List.not_mem_nil,or_false,not_or];omega))).trans au;have n79:=ne_next (show AH.empty.next+2<UZ.next by first|omega|(simp only [AH.aI,AH.aJ,AH.aL,AH.aM];omega));have m80:=aS (show AH.empty.next+2<UZ.next by first|omega|(simp only [AH.aI,AH.aJ,AH.aL,AH.aM];omega));have n82:=ne_next (show AH.empty.next+4<UZ.next by first|omega|(simp only [AH.aI,AH.aJ,AH.aL,AH.aM];omega));have m83:=aS (show AH.empty.next+4<UZ.next by first|omega|(simp only [AH.aI,AH.aJ,AH.aL,AH.aM];omega));try refine ah ?_
      obtain⟨axB,asO,h⟩:=aj h;refine TT (AH.empty.next+1) (AH.empty.next+2) x2.kind x2.n x2.text x2.names x2.args p8.names.1 p8.names.2 p8.operands.1 p8.operands.2 p8.text p8.number (x2.kind==23) p8.text _ _ _ (Fr.refl _ _) au bO bO bO _ asO _ ?_
      ·rintro TU σ' eo acr axC;rw [eo]at h;have axD:σ' 7=(.ref (AH.empty.next+1) 0):=(acr 7 (by decide)).trans au;have anD:σ' 10=(.ref (AH.empty.next+4) 0):=(acr 10 (by decide)).trans au;have anE:σ' 13=(.bool (x2.kind==23)):=(acr 13 (by decide)).trans au;try refine ah ?_
       refine eF ?_;rcases av h with⟨XO,h⟩|⟨XO,h⟩
       ·obtain⟨af6,asP,h⟩:=aj h;try refine ah ?_
        refine PC.mk (jI asP) ?_;rcases av h with⟨e143,h⟩|⟨e143,h⟩
        ·obtain⟨anq,af8,h⟩:=aj h;try refine ah ?_
         refine PC.mk (jI af8) ?_;obtain⟨anr,acs,h⟩:=aj h;try refine ah ?_
         refine aA (zY acs) ?_;obtain⟨ant,anF,h⟩:=aj h;try refine ah ?_
         refine aA (jk anF) ?_;obtain rfl:=ak h;try refine ah ?_
         exact(.pure _ (.int _ _))
        ·obtain⟨anu,afL,h⟩:=aj h;try refine ah ?_
         refine PC.mk (fQ afL) ?_;obtain⟨XP,e152,h⟩:=aj h;try refine ah ?_
         refine PC.mk (jI e152) ?_;obtain⟨anv,e154,h⟩:=aj h;try refine ah ?_
         refine aA (zY e154) ?_;obtain⟨anw,asQ,h⟩:=aj h;try refine ah ?_
         refine aA (jk asQ) ?_;obtain rfl:=ak h;try refine ah ?_
         exact(.pure _ (.int _ _))
       ·obtain⟨af7,af9,h⟩:=aj h;try refine ah ?_
        refine PC.mk (jI af9) ?_;rcases av h with⟨asR,h⟩|⟨asR,h⟩
        ·obtain⟨anx,anG,h⟩:=aj h;try refine ah ?_
         refine PC.mk (jI anG) ?_;obtain⟨anz,afK,h⟩:=aj h;try refine ah ?_
         refine aA (zY afK) ?_;obtain⟨anA,e165,h⟩:=aj h;try refine ah ?_
         refine aA (jk e165) ?_;obtain rfl:=ak h;try refine ah ?_
         exact(.pure _ (.int _ _))
        ·obtain⟨XQ,e167,h⟩:=aj h;try refine ah ?_
         refine PC.mk (fQ e167) ?_;obtain⟨anB,e169,h⟩:=aj h;try refine ah ?_
         refine PC.mk (jI e169) ?_;obtain⟨abW,aga,h⟩:=aj h;try refine ah ?_
         refine aA (zY aga) ?_;obtain⟨anC,asS,h⟩:=aj h;try refine ah ?_
         refine aA (jk asS) ?_;obtain rfl:=ak h;try refine ah ?_
         exact(.pure _ (.int _ _))
  ·obtain rfl:=ak h;try refine ah ?_
   exact(.pure _ (.int _ _))
def jA:Nat->(List Nd)->(List Int)->Int->Int->Option (List Int⊕(Int×Int))
  |0,_,_,_,_=>none
  |k+1,aG,lM,jE,dQ=>
    cond (decide (dQ<jE)) (Option.bind (BZ k aG dQ lM) fun gT=>cond (gT !=0) (some (.inr ((dQ,gT)))) (if(lM.length+1)*8<=1099511627776 then Option.bind (LY aG dQ (lM++[0])) fun mF=>if 0<=dQ then Option.bind ((lM++[0])[dQ.toNat]?) fun x23=>jA k aG ((lM++[0]).set dQ.toNat mF) jE (IntKind.wrap .i64 (dQ+1))else none else none)) (some (.inl lM))
def Af:List Nat:=[2,3,5,6,7]++List.range' 27 22
theorem Oo: ∀(k:Nat) (wI:PV) (vQ:List Nat) (M:List Nat) (aG:List Nd) (lM:List Int) (jE:Int) (dQ:Int) (aC σ:Nat->PV) (H0 H:AH) (f0:Fr Af aC σ) (hf0:HF M H0 H) (sl:σ 0=(.aB (aG.map Nd.cells) .unk)/\σ 5=wI/\σ 26=(.int .i64 jE)/\σ 27=(.int .i64 dQ)) (qc:aK H aY 1 lM wI vQ) (tV:Nw H0 M vQ) (o:List Int⊕(Int×Int)) (h:jA k aG lM jE dQ=some o) (Q:Post) (q0: ∀(p:List Int) (v0:PV) (oQ:List Nat) (σ':Nat->PV) (H':AH),o= .inl p->Fr Af aC σ'->HF M H0 H'->(σ' 5=v0)->aK H' aY 1 p v0 oQ->Nw H0 M oQ->Q (.exit 0) σ' H') (q1: ∀(p:Int×Int) (σ':Nat->PV) (H':AH),o= .inr (p)->Fr Af aC σ'->HF M H0 H'->(σ' 2=(.int .i64 p.1)/\σ' 3=(.int .i64 p.2))->Q .ret σ' H'),W Tryz.prog (.loop Q0) Q σ H:=by
  intro k
  induction k with
  |zero=>intro wI vQ M aG lM jE dQ aC σ H0 H f0 hf0 sl qc tV o h Q q0 q1;simp only [jA,reduceCtorEq]at h
  |succ k ih=>
    intro wI vQ M aG lM jE dQ aC σ H0 H f0 hf0 sl qc tV o h Q q0 q1;obtain⟨s0,s5,uS,wT⟩:=sl;have hle0:=hf0.1;unfold jA at h;refine aV (fun K hK=>aD ?_);unfold Q0;rcases av h with⟨e8,h⟩|⟨e8,h⟩
    ·obtain⟨gT,e9,h⟩:=aj h;try refine bK ?_
     refine Fq (aad e9) (.cons (dN Nd.pu _ _) (.cons (.pure _ (.int _ _)) (.cons (aK.fz gG (by repeat (first|exact qc|apply aK.new|refine aK.put ?_ (fun hm=>by have:=aK.lt qc _ hm;omega)))) .nil))) (.cons (aU Nd.pu _) (.cons (.int _ _) (.cons (aU gG _) .nil))) (.int _ _) ?_;rcases av h with⟨e11,h⟩|⟨e11,h⟩
     ·obtain rfl:=ak h;try refine bK ?_
      exact q1 _ _ _ rfl aN (by repeat (first|exact hf0|refine HF.new ?_|refine HF.eG ?_|refine HF.used ?_|refine HF.put (by first|(right;omega)|(left;simp only [List.mem_cons,true_or,or_true])) ?_)) aZ
     ·obtain⟨e12,h⟩:=aO h;try refine bK ?_
      refine BX (f:=aY) (v:=wI) DN lM ([0]:List Int) .exact aZ (by repeat (first|exact qc|apply aK.new|refine aK.put ?_ (fun hm=>by have:=aK.lt qc _ hm;omega))) aZ (by decide) (by simp only [List.length_cons,List.length_nil];exact e12) (fun v13 apy H15 r16 anH anI anJ=> ?_);have le:=anI.1;try simp only [AH.aI,AH.aJ,AH.aL,AH.aM]at le
      obtain⟨mF,e20,h⟩:=aj h;try refine bK ?_
      refine Fq (adT e20) (.cons (dN Nd.pu _ _) (.cons (.pure _ (.int _ _)) (.cons (aK.fz gG (by repeat (first|exact r16|apply aK.new|refine aK.put ?_ (fun hm=>by have:=aK.lt r16 _ hm;omega)))) .nil))) (.cons (aU Nd.pu _) (.cons (.int _ _) (.cons (aU gG _) .nil))) (.int _ _) ?_;obtain⟨e22,h⟩:=aO h;obtain⟨x23,e24,h⟩:=aj h;obtain⟨w25,w26,anK,hil,w27,hC,hL,hD,hI⟩:=aK.content r16 e24;have w28:=ne_next hil;have w29:=aS hil;have w30:jG 1 v13 (.int .i64 dQ)=some (.ref w25 (dQ.toNat)):=by simpa using hI .i64 dQ (by first|omega|decide) (by first|rfl|omega)
      have awo:w26[dQ.toNat]? =some (.int .i64 x23):=by simpa using hC 0 _ rfl
      clear hC hL hD hI;try refine bK ?_
      refine nK (f:=aY) (id:=w25) (o:=dQ.toNat) (i:=dQ.toNat) (j:=0) (a:=x23) (y:=mF) (vs:=[(.int .i64 mF)]) aZ anK (by omega) (by repeat (first|exact r16|apply aK.new|refine aK.put ?_ (fun hm=>by have:=aK.lt r16 _ hm;omega))) e24 aZ rfl rfl (by first|decide|(simp only [List.length_cons,List.length_nil];omega)) rfl (fun H33 r34 anL akZ=> ?_);have le:=anL.1;try simp only [AH.aI,AH.aJ,AH.aL,AH.aM]at le
      try refine bK ?_
      refine hK _ _ ?_;exact ih v13 apy M aG ((lM++[0]).set dQ.toNat mF) jE (IntKind.wrap .i64 (dQ+1)) _ _ _ _ aN (by repeat (first|exact hf0|refine HF.new ?_|refine HF.eG ?_|refine HF.used ?_|refine HF.put (by first|(right;omega)|(left;simp only [List.mem_cons,true_or,or_true])) ?_|refine HF.via anI tV ?_|refine HF.via anL (Nw.trans tV bO anH) ?_)) aZ (by repeat (first|exact r34|apply aK.new|refine aK.put ?_ (fun hm=>by have:=aK.lt r34 _ hm;omega))) (Nw.trans tV bO anH) _ h _ q0 q1
    ·obtain rfl:=ak h;try refine bK ?_
     exact q0 _ wI vQ _ _ rfl aN (by repeat (first|exact hf0|refine HF.new ?_|refine HF.eG ?_|refine HF.used ?_|refine HF.put (by first|(right;omega)|(left;simp only [List.mem_cons,true_or,or_true])) ?_)) aZ (by repeat (first|exact qc|apply aK.new|refine aK.put ?_ (fun hm=>by have:=aK.lt qc _ hm;omega))) tV
def jB:Nat->(List Nd)->(List Int)->(List Int)->Int->Int->Option (Unit⊕(Int×Int))
  |0,_,_,_,_,_=>none
  |k+1,aG,KR,vR,KS,Gw=>
    cond (decide (Gw<KS)) (Option.bind (Ey k aG Gw KR vR) fun p54=>cond p54 (some (.inr ((Gw,30)))) (jB k aG KR vR KS (IntKind.wrap .i64 (Gw+1)))) (some (.inl ()))
def Ag:List Nat:=[2,3,11]++List.range' 59 10
theorem Oq: ∀(k:Nat) (aG:List Nd) (KR:List Int) (vR:List Int) (KS:Int) (Gw:Int) (aC σ:Nat->PV) (H:AH) (f0:Fr Ag aC σ) (sl:σ 0=(.aB (aG.map Nd.cells) .unk)/\σ 9=(.aB (KR.map aY) .unk)/\σ 10=(.aB (vR.map aY) .unk)/\σ 58=(.int .i64 KS)/\σ 59=(.int .i64 Gw)) (o:Unit⊕(Int×Int)) (h:jB k aG KR vR KS Gw=some o) (Q:Post) (q0: ∀(p:Unit) (σ':Nat->PV),o= .inl p->Fr Ag aC σ'->Q (.exit 2) σ' H) (q1: ∀(p:Int×Int) (σ':Nat->PV),o= .inr (p)->Fr Ag aC σ'->(σ' 2=(.int .i64 p.1)/\σ' 3=(.int .i64 p.2))->Q .ret σ' H),W Tryz.prog (.loop Q5) Q σ H:=by
  intro k
  induction k with
  |zero=>intro aG KR vR KS Gw aC σ H f0 sl o h Q q0 q1;simp only [jB,reduceCtorEq]at h
  |succ k ih=>
    intro aG KR vR KS Gw aC σ H f0 sl o h Q q0 q1;obtain⟨s0,s9,s10,s58,s59⟩:=sl;unfold jB at h;refine aV (fun K hK=>aD ?_);unfold Q5;rcases av h with⟨e52,h⟩|⟨e52,h⟩
    ·obtain⟨p54,e53,h⟩:=aj h;try refine bK ?_
     refine aA (acn e53) ?_;rcases av h with⟨e55,h⟩|⟨e55,h⟩
     ·obtain rfl:=ak h;try refine bK ?_
      exact q1 _ _ rfl aN aZ
     ·try refine bK ?_
      refine hK _ _ ?_;exact ih aG KR vR KS (IntKind.wrap .i64 (Gw+1)) _ _ _ aN aZ _ h _ q0 q1
    ·obtain rfl:=ak h;try refine bK ?_
     exact q0 _ _ rfl aN
def lZ (k:Nat) (aG:List Nd):Option (Int×Int):=
  Option.bind (kE ((aG.length:Int)==0) 1) fun p2=>Option.bind (kE (decide ((aG.length:Int)>160)) 2) fun p4=>Option.bind (fG k [p2,p4]) fun p6=>cond (p6 !=0) (some (0,p6)) (Option.bind (jA k aG ([]:List Int) (aG.length:Int) 0) (fun o=>Sum.elim (fun p40=>Option.bind (yM k aG) fun p51=>Option.bind (jB k aG p51.1 p51.2 (aG.length:Int) 0) (fun o=>Sum.elim (fun p58=>if 0<=(IntKind.wrap .i64 ((aG.length:Int) -1))then Option.bind (p40[(IntKind.wrap .i64 ((aG.length:Int) -1)).toNat]?) fun x65=>cond (x65 !=0) (some ((IntKind.wrap .i64 ((aG.length:Int) -1)),15)) (some (0,0))else none) (fun p74=>some (p74.1,p74.2)) o)) (fun wS=>some (wS.1,wS.2)) o))
theorem Jy {k:Nat} {aG:List Nd} {c0:Ck} {r:Int×Int} (h:lZ k aG=some r):aF Tryz.prog 14 [(.aB (aG.map Nd.cells) c0)] (.dw [(.int .i64 r.1),(.int .i64 r.2)]):=by
  refine aF.lw (.aB .nil) (aF.aP (bg.mem (.cons (aU Nd.pu _) .nil)) (aH ari (by simp) (aD ?_)) (.dw _ (bg.mem (.cons (.int _ _) (.cons (.int _ _) .nil)))));unfold lZ at h;unfold akE;obtain⟨p2,e1,h⟩:=aj h;try refine bK ?_
  refine aA (jI e1) ?_;obtain⟨p4,e3,h⟩:=aj h;try refine bK ?_
  refine aA (jI e3) ?_;obtain⟨p6,e5,h⟩:=aj h;try refine bK ?_
  refine aA (jk e5) ?_;rcases av h with⟨e7,h⟩|⟨e7,h⟩
  ·obtain rfl:=ak h;try refine bK ?_
   exact(bR (.cons (.pure _ (.int _ _)) (.cons (.pure _ (.int _ _)) .nil)))
  ·try refine bK ?_
   obtain⟨o38,h39,h⟩:=aj h;refine Oo k (.aB [] .nil) [] ([]++[]) aG ([]:List Int) (aG.length:Int) 0 _ _ _ _ (Fr.refl _ _) (HF.refl _ _) aZ (by repeat (first|exact aK.nil|apply aK.new|refine aK.put ?_ (fun hm=>by have:=aK.lt aK.nil _ hm;omega))) (fun i hi=>Or.inl (by simp only [List.mem_append,List.mem_cons,hi,true_or,or_true])) _ h39 _ ?_ ?_
   ·rintro p40 v44 awp σ' H43 eo X8 asT s48 r46 axE;subst eo;rw [bT]at h;have s49:σ' 0=(.aB (aG.map Nd.cells) .unk):=(X8 0 (by decide)).trans aZ;have le:=asT.1;try simp only [AH.aI,AH.aJ,AH.aL,AH.aM]at le
    obtain⟨p51,e50,h⟩:=aj h;try refine bK ?_
    refine aA (Z9 e50) ?_;try refine bK ?_
    obtain⟨o56,h57,h⟩:=aj h;refine Oq k aG p51.1 p51.2 (aG.length:Int) 0 _ _ _ (Fr.refl _ _) aZ _ h57 _ ?_ ?_
    ·rintro p58 σ' eo afP;subst eo;rw [bT]at h;have s62:σ' 5=v44:=(afP 5 (by decide)).trans aZ;have s63:σ' 8=(.int .i64 (IntKind.wrap .i64 ((aG.length:Int) -1))):=(afP 8 (by decide)).trans aZ;obtain⟨e64,h⟩:=aO h;obtain⟨x65,e66,h⟩:=aj h;obtain⟨w67,w68,avA,hil,w69,hC,hL,hD,hI⟩:=aK.content r46 e66;have w70:=ne_next hil;have w71:=aS hil;have w72:jG 1 v44 (.int .i64 (IntKind.wrap .i64 ((aG.length:Int) -1)))=some (.ref w67 ((IntKind.wrap .i64 ((aG.length:Int) -1)).toNat)):=by simpa using hI .i64 (IntKind.wrap .i64 ((aG.length:Int) -1)) (by first|omega|decide) (by first|rfl|omega)
     have awq:w68[(IntKind.wrap .i64 ((aG.length:Int) -1)).toNat]? =some (.int .i64 x65):=by simpa using hC 0 _ rfl
     clear hC hL hD hI;rcases av h with⟨Pq,h⟩|⟨Pq,h⟩
     ·obtain rfl:=ak h;try refine bK ?_
      exact(bR (.cons (.pure _ (.int _ _)) (.cons (.pure _ (.int _ _)) .nil)))
     ·obtain rfl:=ak h;try refine bK ?_
      exact(bR (.cons (.pure _ (.int _ _)) (.cons (.pure _ (.int _ _)) .nil)))
    ·rintro p74 σ' eo axF ⟨s78,s79⟩;subst eo;rw [bZ]at h;obtain rfl:=ak h;try refine bK ?_
     exact(bR (.cons (.pure _ (.int _ _)) (.cons (.pure _ (.int _ _)) .nil)))
   ·rintro wS σ' H83 eo zL af0 ⟨s84,s85⟩;subst eo;rw [bZ]at h;have le:=af0.1;try simp only [AH.aI,AH.aJ,AH.aL,AH.aM]at le
    obtain rfl:=ak h;try refine bK ?_
    exact(bR (.cons (.pure _ (.int _ _)) (.cons (.pure _ (.int _ _)) .nil)))
def fF (k:Nat) (aG:List Nd):Option Int:=
  Option.bind (lZ k aG) fun p2=>some p2.2
theorem tX {k:Nat} {aG:List Nd} {c0:Ck} {r:Int} (h:fF k aG=some r):aF Tryz.prog 58 [(.aB (aG.map Nd.cells) c0)] (.int .i64 r):=by
  refine aF.lw (.aB .nil) (aF.aP (bg.mem (.cons (aU Nd.pu _) .nil)) (aH arE (by simp) (aD ?_)) (.int _ _));unfold fF at h;unfold alj;obtain⟨p2,e1,h⟩:=aj h;try refine ah ?_
  refine aA (Jy e1) ?_;obtain rfl:=ak h;try refine ah ?_
  exact(.pure _ (.int _ _))
end Go.VL
end
section
namespace Go.VL
theorem ajx (s p:Str):kU s p=some (decide (p.length<=s.length)&&decide (s.take p.length=p)):=by
  unfold kU uF;by_cases h:p.length<=s.length
  · have h':(s.length:Int)>=(p.length:Int):=by omega
    simp only [h,h',decide_true,cond_true,if_true,Option.bind_some,Bool.true_and,G8]
  · have h': ¬(s.length:Int)>=(p.length:Int):=by omega
    simp only [h,h',decide_false,cond_false,Option.bind_some,Bool.false_and]
theorem apz (s:Str) (a b c:UInt8):kU s [a,b,c]=some (decide (s.take 3=[a,b,c])):=by
  rw [ajx];congr 1
  show(decide (3<=s.length)&&decide (s.take 3=[a,b,c]))=_
  by_cases h:s.take 3=[a,b,c]
  · have:=congrArg List.length h;rw [List.length_take]at this;have h3:3<=s.length:=by simp at this;omega
    simp [h,h3]
  · simp [h]
theorem agb (s:Str):decide (s∈Gq)=(decide (s∈M4)||qW s):=by
  have h1:Gq=M4++[[66,79,79,76,69,65,78],[83,84,82,73,78,71]]:=by kernel_rfl
  have h2:([84,82,85,69]:Str)∈M4:=by decide+kernel
  have h3:([70,65,76,83,69]:Str)∈M4:=by decide+kernel
  rw [h1];unfold qW;by_cases a:s=[84,82,85,69]
  · subst a;simp [h2]
  by_cases b:s=[70,65,76,83,69]
  · subst b;simp [h3]
  by_cases c:s∈M4<;>simp [a,b,c]
theorem agc:Gq.length=52:=by kernel_rfl
theorem acu (s:Str):(qM s).length=s.length:=by simp [qM]
theorem acv (s:Str) {i:Nat} (h:i<s.length):(qM s)[i]? =some (s[i].toNat:Int):=by simp [qM,h]
theorem aic (c:UInt8):IntKind.wrap .i64 (c.toNat:Int)=(c.toNat:Int):=by have:=c.toNat_lt;exact wrap64 (by omega) (by omega)
def KT (s:Str):Nat:=s.countP isLet
theorem agd (s:Str):decide ((KT s:Int)>0)=s.any isLet:=by
  unfold KT
  induction s with
  |nil=>rfl
  |cons c l ih=>
    rw [List.countP_cons,List.any_cons];by_cases h:isLet c=true
    · simp only [h,if_true,Bool.true_or,decide_eq_true_eq];omega
    · rw [if_neg h,Nat.add_zero,ih];simp [h]
theorem TW (c:UInt8):(Option.bind (fP (c.toNat:Int) 97 122) fun p26=>xD (c.toNat:Int) p26)=some (isLet c):=by
  unfold xD;simp only [lV,Option.bind_some,aic];unfold isLet;have e1:((97:Int)<=(c.toNat:Int)/\(c.toNat:Int)<=122)=(97<=c.toNat/\c.toNat<=122):=by rw [eq_iff_iff];omega
  have e2:((65:Int)<=(c.toNat:Int)/\(c.toNat:Int)<=90)=(65<=c.toNat/\c.toNat<=90):=by rw [eq_iff_iff];omega
  simp only [e1,e2];cases decide (97<=c.toNat/\c.toNat<=122)<;>rfl
theorem l5 (s:Str):Ev (fun k=>mR k s) (rName s):=by
  unfold mR Bz;simp only [lV,Option.bind_some,apz];by_cases h1:1<=s.length/\s.length<=24
  · have e1:(decide ((1:Int)<=(s.length:Int)/\(s.length:Int)<=24))=true:=decide_eq_true (by omega);simp only [e1,Bool.not_true,cond_false];refine Ev.bind (x:=UK s||decide (s∈Gq)) ?_ ?_
    · unfold UK;cases decide (s.take 3=[87,70,95])
      · cases decide (s.take 3=[83,70,95])
        · exact Ev.bind (xK _ _ (by rw [agc];omega)) (Ev.some' (by simp only [Bool.false_or]))
        · exact Ev.some
      · exact Ev.some
    · have hspec:rName s=(!(UK s||decide (s∈Gq))&&s.all om&&s.any isLet):=by
        rw [agb];unfold rName bName;simp only [h1,and_self,decide_true,Bool.true_and];cases decide (s∈M4)<;>cases qW s<;>cases UK s<;>cases s.all om<;>cases s.any isLet<;>rfl
      rw [hspec];cases(UK s||decide (s∈Gq))
      · simp only [cond_false,Bool.not_false,Bool.true_and];have hb:s.length<=1099511627776:=by omega
        have key: ∀m:Nat,m<=0->Ev (fun k=>jU k (m:Int) (qM s) (s.length:Int) ((0:Nat):Int)) (if(s.drop 0).all om=true then .inl ((m+KT (s.drop 0):Nat):Int)else .inr false):=by
          refine mH (len:=s.length) (p:=fun i=> ∀m:Nat,m<=i->Ev (fun k=>jU k (m:Int) (qM s) (s.length:Int) (i:Int)) (if(s.drop i).all om=true then .inl ((m+KT (s.drop i):Nat):Int)else .inr false)) ?_ fun i hi ih m hm=> ?_
          · intro m hm;refine Ev.succ ?_;simp only [jU];exact Ev.cF (kV _) (Ev.some' (by simp only [List.drop_length,List.all_nil,if_true,KT,List.countP_nil,Nat.add_zero]))
          · refine Ev.succ ?_;have hp1:=TW s[i];simp only [lV,Option.bind_some]at hp1;simp only [jU,Int.toNat_natCast,acv s hi,Option.bind_some,nn,if_true,mZ hi,cond_true,fK hi hb,lV,aic];refine Ev.jh hp1 ?_;have hcount:KT (s.drop i)=(if isLet s[i]=true then 1 else 0)+KT (s.drop (i+1)):=by
              unfold KT;rw [drop_cons hi,List.countP_cons,Nat.add_comm]
            rw [hcount];have hall:(s.drop i).all om=(om s[i]&&(s.drop (i+1)).all om):=by rw [drop_cons hi,List.all_cons]
            rw [hall];by_cases h2:isLet s[i]=true
            · have hc:om s[i]=true:=by unfold om;rw [h2];rfl
              refine Ev.cT h2 ?_;rw [fK (i:=m) (n:=i+1) (by omega) (by omega)];refine(ih (m+1) (by omega)).to ?_;simp only [hc,h2,if_true,Bool.true_and,Nat.add_assoc]
            · have h2':isLet s[i]=false:=by simpa using h2
              refine Ev.cF h2' ?_;simp only [h2',Bool.false_eq_true,if_false,Nat.zero_add];have e3:((48:Int)<=(s[i].toNat:Int)/\(s[i].toNat:Int)<=57)=(48<=s[i].toNat/\s[i].toNat<=57):=by rw [eq_iff_iff];omega
              by_cases h3:48<=s[i].toNat/\s[i].toNat<=57
              · have hc:om s[i]=true:=by unfold om Dh;simp [h3]
                refine Ev.cT (decide_eq_true (e3▸h3)) ((ih m (by omega)).to ?_);simp only [hc,Bool.true_and]
              · refine Ev.cF (decide_eq_false (e3▸h3)) ?_;by_cases h4:s[i].toNat=95
                · have hc:om s[i]=true:=by unfold om;simp [h4]
                  refine Ev.cF (by rw [h4];rfl) ((ih m (by omega)).to ?_);simp only [hc,Bool.true_and]
                · have hc:om s[i]=false:=by unfold om Dh;rw [h2'];simp [h4];omega
                  refine Ev.cT (by rw [bne_iff_ne];omega) (Ev.some' ?_);simp only [hc,Bool.false_and,Bool.false_eq_true,if_false]
        have anM:=key 0 (Nat.le_refl _);rw [List.drop_zero,Nat.zero_add]at anM;simp only [acu];refine Ev.bind anM ?_;by_cases h3:s.all om=true
        · simp only [h3,if_true,bT,Bool.true_and];exact Ev.some' (agd s)
        · simp only [h3,if_false,bZ];exact Ev.some' (by simp [h3])
      · exact Ev.some
  · have e1:(decide ((1:Int)<=(s.length:Int)/\(s.length:Int)<=24))=false:=decide_eq_false (by omega);simp only [e1,Bool.not_false,cond_true,Option.bind_some];exact Ev.some' (by simp [rName,bName,h1])
theorem PZ (s:Str):(Lib.indexByte s 33= -1/\bang s=none)\/ ∃i:Nat,Lib.indexByte s 33=(i:Int)/\i<s.length/\bang s=some (s.take i,s.drop (i+1)):=by
  induction s with
  |nil=>exact .inl ⟨rfl,rfl⟩
  |cons c l ih=>
    by_cases h:c=33
    · subst h;exact .inr ⟨0,rfl,by simp,by simp [bang]⟩
    · have hc:(c==33)=false:=beq_eq_false_iff_ne.2 h;rcases ih with⟨h1,h2⟩|⟨i,h1,h2,h3⟩
      · exact .inl ⟨by simp [Lib.indexByte,hc,h1],by simp [bang,h,h2]⟩
      · refine .inr ⟨i+1,?_,by simp;omega,by simp [bang,h,h3]⟩;have:((i:Int)== -1)=false:=by rw [beq_eq_false_iff_ne];omega
        simp [Lib.indexByte,hc,h1,this]
theorem KU {s:Str} (h:rName s=true):s.length<=24:=by
  unfold rName bName at h;simp only [Bool.and_eq_true,decide_eq_true_eq]at h;exact h.1.1.1.1.1.2
theorem Jz (s:Str) (hb:s.length<=1000000):Ev (fun k=>wB k s) (ji s):=by
  unfold wB afR;by_cases hl:s.length<=49
  · refine Ev.cF (decide_eq_false (by omega)) ?_;unfold ji;rcases PZ s with⟨h1,h2⟩|⟨i,h1,h2,h3⟩
    · simp only [h1,h2,Option.bind_some];refine Ev.cF (by decide) (Ev.bind (l5 s) ?_);cases rName s<;>exact Ev.some
    · simp only [h1,h3,Option.bind_some];refine Ev.cT (decide_eq_true (by omega)) (Ev.kg ⟨by omega,by omega⟩ ?_);rw [fK h2 (by omega)];refine Ev.kg ⟨by omega,by omega⟩ (Ev.bind (l5 _) ?_);simp only [Int.toNat_natCast];cases rName (s.take i)
      · exact Ev.some
      · simp only [cond_true,Bool.true_and];exact Ev.bind (l5 _) Ev.some
  · refine Ev.cT (decide_eq_true (by omega)) (Ev.some' ?_);unfold ji;rcases PZ s with⟨h1,h2⟩|⟨i,h1,h2,h3⟩
    · simp only [h2];cases h:rName s
      · rfl
      · exact absurd (KU h) (by omega)
    · simp only [h3];cases h:rName (s.take i)
      · rfl
      · cases h':rName (s.drop (i+1))
        · rfl
        · have a:=KU h;have b:=KU h';rw [List.length_take]at a;rw [List.length_drop]at b;omega
theorem aae (s:Str):vD s=some (vB s):=by
  unfold vD vB;have h:(!acg s)=s.all KC:=by
    unfold acg
    induction s with
    |nil=>rfl
    |cons c l ih=>
      rw [List.any_cons,List.all_cons,Bool.not_or,ih];congr 1
      unfold Oi KC;generalize c.toNat=n;by_cases h1:32<=n<;>by_cases h2:n<=126<;>by_cases h3:n=34<;>by_cases h4:n=92<;>simp [h1,h2,h3,h4]
  rw [h];by_cases hl:s.length<=40
  · have:(s.length:Int)<=40:=by omega
    simp [hl,this]
  · have: ¬(s.length:Int)<=40:=by omega
    simp [hl,this]
theorem KV {l:List Operator} {t:Str} (h: ¬t∈l.map (·.text)):dK l t=(G7,false):=by
  induction l with
  |nil=>rfl
  |cons o l ih=>
    simp only [List.map_cons,List.mem_cons,not_or]at h;rw [dK,if_neg (fun e=>h.1 e.symm),ih h.2]
theorem asU (t:Str):dK mU t=dK fH t:=by
  have h1:((mU.map (·.text)).all fun t=>decide (dK mU t=dK fH t))=true:=by kernel_rfl
  have h2:((fH.map (·.text)).all fun t=>decide (t∈mU.map (·.text)))=true:=by kernel_rfl
  by_cases h:t∈mU.map (·.text)
  · exact of_decide_eq_true (List.all_eq_true.1 h1 t h)
  · rw [KV h,KV (fun h'=>h (of_decide_eq_true (List.all_eq_true.1 h2 t h')))]
theorem agf:mU.length=42:=by kernel_rfl
theorem uG (t:Str):Ev (fun k=>jV k t) (dK fH t):=by
  rw [<-asU];have hl:mU.length<=1099511627776:=by rw [agf];omega
  have key: ∃o:Unit⊕Int,Ev (fun k=>aW k mU t (mU.length:Int) ((0:Nat):Int)) o/\((o= .inl ()/\dK (mU.drop 0) t=(G7,false))\/ ∃(j:Nat) (x:Operator),o= .inr (j:Int)/\mU[j]? =some x/\dK (mU.drop 0) t=(x,true)):=by
    refine mH (len:=mU.length) (p:=fun i=> ∃o:Unit⊕Int,Ev (fun k=>aW k mU t (mU.length:Int) (i:Int)) o/\((o= .inl ()/\dK (mU.drop i) t=(G7,false))\/ ∃(j:Nat) (x:Operator),o= .inr (j:Int)/\mU[j]? =some x/\dK (mU.drop i) t=(x,true))) ?_ fun i hi ⟨o,ih,ho⟩=> ?_
    · refine⟨.inl (),Ev.succ ?_,.inl ⟨rfl,by simp [dK]⟩⟩;simp only [aW];exact Ev.cF (kV _) Ev.some
    · by_cases h:mU[i].text=t
      · refine⟨.inr (i:Int),Ev.succ ?_,.inr ⟨i,mU[i],rfl,bM hi,by rw [drop_cons hi,dK,if_pos h]⟩⟩;simp only [aW,qU,Int.toNat_natCast,bM hi,Option.bind_some,nn,if_true,mZ hi,cond_true,fK hi hl];exact Ev.cT (by rw [beq_iff_eq];exact h) Ev.some
      · refine⟨o,Ev.succ ?_,by rw [drop_cons hi,dK,if_neg h];exact ho⟩;simp only [aW,qU,Int.toNat_natCast,bM hi,Option.bind_some,nn,if_true,mZ hi,cond_true,fK hi hl];exact Ev.cF (by rw [beq_eq_false_iff_ne];exact h) ih
  obtain⟨o,h1,h2⟩:=key;rw [List.drop_zero]at h2;unfold jV eO;rcases h2 with⟨rfl,h2⟩|⟨j,x,rfl,h3,h2⟩
  · refine Ev.bind (x:= -1) (Ev.bind h1 Ev.some) ?_;rw [h2];exact Ev.cT (by decide) Ev.some
  · refine Ev.bind (x:=(j:Int)) (Ev.bind h1 Ev.some) ?_;rw [h2];simp only [Int.toNat_natCast,h3,Option.bind_some,nn,if_true];exact Ev.cF (decide_eq_false (by omega)) Ev.some
def vS:List Int->Int
  |[]=>0
  |a::l=>if a=0 then vS l else a
theorem wJ (l:List Int) (hl:l.length<=1099511627776):Ev (fun k=>fG k l) (vS l):=by
  have key:Ev (fun k=>gX k l (l.length:Int) ((0:Nat):Int)) (if vS (l.drop 0)=0 then .inl ()else .inr (vS (l.drop 0))):=by
    refine mH (len:=l.length) (p:=fun i=>Ev (fun k=>gX k l (l.length:Int) (i:Int)) (if vS (l.drop i)=0 then .inl ()else .inr (vS (l.drop i)))) ?_ fun i hi ih=> ?_
    · refine Ev.succ ?_;simp only [gX];exact Ev.cF (kV _) (Ev.some' (by simp [vS]))
    · refine Ev.succ ?_;simp only [gX,Int.toNat_natCast,bM hi,Option.bind_some,nn,if_true,mZ hi,cond_true,fK hi hl];rw [drop_cons hi,vS];by_cases h:l[i]=0
      · refine Ev.cF (by rw [h];rfl) (ih.to ?_);simp only [h,if_true]
      · refine Ev.cT (by rw [bne_iff_ne];exact h) (Ev.some' ?_);simp only [h,if_false]
  unfold fG;refine Ev.bind key ?_;rw [List.drop_zero];by_cases h:vS l=0
  · simp only [h,if_true,bT];exact Ev.some
  · simp only [h,if_false,bZ];exact Ev.some
theorem aaf (l:List Str) (hl:l.length<=1099511627776):Ev (fun k=>fC k l) (!l.all rName):=by
  have key: ∃o:Unit⊕Int,Ev (fun k=>bF k l (l.length:Int) ((0:Nat):Int)) o/\((o= .inl ()/\(l.drop 0).all rName=true)\/(∃j:Nat,o= .inr (j:Int))/\(l.drop 0).all rName=false):=by
    refine mH (len:=l.length) (p:=fun i=> ∃o:Unit⊕Int,Ev (fun k=>bF k l (l.length:Int) (i:Int)) o/\((o= .inl ()/\(l.drop i).all rName=true)\/(∃j:Nat,o= .inr (j:Int))/\(l.drop i).all rName=false)) ?_ fun i hi ⟨o,ih,ho⟩=> ?_
    · refine⟨.inl (),Ev.succ ?_,.inl ⟨rfl,by simp⟩⟩;simp only [bF];exact Ev.cF (kV _) Ev.some
    · have hn:Ev (fun k=>vL k l[i]) (!rName l[i]):=by unfold vL;exact Ev.bind (l5 _) Ev.some
      by_cases h:rName l[i]=true
      · refine⟨o,Ev.succ ?_,by rw [drop_cons hi,List.all_cons,h,Bool.true_and];exact ho⟩;simp only [bF,Int.toNat_natCast,bM hi,Option.bind_some,nn,if_true,mZ hi,cond_true,fK hi hl];exact Ev.bind hn (Ev.cF (by rw [h];rfl) ih)
      · have h:rName l[i]=false:=by simpa using h
        refine⟨.inr (i:Int),Ev.succ ?_,.inr ⟨⟨i,rfl⟩,by rw [drop_cons hi,List.all_cons,h,Bool.false_and]⟩⟩;simp only [bF,Int.toNat_natCast,bM hi,Option.bind_some,nn,if_true,mZ hi,cond_true,fK hi hl];exact Ev.bind hn (Ev.cT (by rw [h];rfl) Ev.some)
  obtain⟨o,h1,h2⟩:=key;rw [List.drop_zero]at h2;unfold fC;rcases h2 with⟨rfl,h2⟩|⟨⟨j,rfl⟩,h2⟩
  · refine Ev.bind (x:= -1) (by unfold gD;exact Ev.bind h1 Ev.some) (Ev.some' ?_);rw [h2];rfl
  · refine Ev.bind (x:=(j:Int)) (by unfold gD;exact Ev.bind h1 Ev.some) (Ev.some' ?_);rw [h2];simp
theorem agh (a b:Int) (c:Str) (l:List Str) (d:List Int) (hl:l.length<=1099511627776):Ev (fun k=>iR k a b c l d false l (l.length:Int) 0) (vC [] l):=by
  have key: ∀x:Bool,Ev (fun k=>iR k a b c l d x l (l.length:Int) ((0:Nat):Int)) (x||vC (l.take 0) (l.drop 0)):=by
    refine mH (len:=l.length) (p:=fun i=> ∀x:Bool,Ev (fun k=>iR k a b c l d x l (l.length:Int) (i:Int)) (x||vC (l.take i) (l.drop i))) (fun x=> ?_) fun i hi ih x=> ?_
    · refine Ev.succ ?_;simp only [iR];exact Ev.cF (kV _) (Ev.some' (by simp [vC]))
    · refine Ev.succ ?_;have h2:i<=l.length:=by omega
      simp only [iR,Int.toNat_natCast,bM hi,Option.bind_some,nn,if_true,mZ hi,cond_true,fK hi hl,true_and,h2];rw [drop_cons hi,vC,<-List.take_succ_eq_append_getElem hi];cases x
      · refine Ev.cF rfl (Ev.bind (xK _ _ (by rw [List.length_take];omega)) ?_);simp only [Bool.false_or];exact ih _
      · exact Ev.cT rfl ((ih true).to (by simp))
  exact key false
def YH (n:Nd):Bool:= !(n.names.all rName)||(decide (n.kind=2)&& !qW n.text&& !ji n.text)||(decide (n.kind=3)&& !(dK fH n.text).2&& !ji n.text)||(decide (n.kind=18)&& !rName n.text)
def arT (n:Nd):Bool:=decide (n.kind=3)&&(dK fH n.text).2&& !gU (n.args.length:Int) (dK fH n.text).1.least (dK fH n.text).1.most
def HZ (n:Nd):Int:=if YH n=true then 7 else if arT n=true then 17 else if vC [] n.names=true then 12 else 0
theorem VR (n:Nd) (h1:n.text.length<=1000000) (h2:n.names.length<=1000000):Ev (fun k=>nD k n) (HZ n):=by
  unfold nD;refine Ev.bind (aaf _ (by omega)) (Ev.bind (uG _) (Ev.bind (x:=(YH n,arT n)) ?_ ?_))
  · unfold xS YH arT gU;by_cases a:n.kind=2
    · simp only [a];refine Ev.cT rfl (Ev.bind (x:= !(n.names.all rName)||(!qW n.text&& !ji n.text)) ?_ (Ev.some' (by simp)));unfold xL;cases n.names.all rName
      · exact Ev.some
      · refine Ev.cF rfl ?_;simp only [KA,Option.bind_some];cases qW n.text
        · exact Ev.bind (Jz _ h1) (Ev.some' (by simp))
        · exact Ev.some
    by_cases b:n.kind=3
    · simp only [b];refine Ev.cF rfl (Ev.cT rfl (Ev.bind (x:= !(n.names.all rName)||(!(dK fH n.text).2&& !ji n.text)) ?_ ?_))
      · unfold xM;cases n.names.all rName
        · exact Ev.some
        · refine Ev.cF rfl ?_;cases(dK fH n.text).2
          · exact Ev.bind (Jz _ h1) (Ev.some' (by simp))
          · exact Ev.some
      · unfold xO;simp only [lV,Option.bind_some];cases(dK fH n.text).2
        · exact Ev.some' (by simp)
        · exact Ev.some' (by simp)
    by_cases c:n.kind=18
    · simp only [c];refine Ev.cF rfl (Ev.cF rfl (Ev.cT rfl (Ev.bind (x:= !(n.names.all rName)|| !rName n.text) ?_ (Ev.some' (by simp)))));unfold xR;cases n.names.all rName
      · exact Ev.some
      · exact Ev.cF rfl (Ev.bind (l5 _) (Ev.some' (by simp)))
    · refine Ev.cF (beq_eq_false_iff_ne.2 a) (Ev.cF (beq_eq_false_iff_ne.2 b) (Ev.cF (beq_eq_false_iff_ne.2 c) (Ev.some' ?_)));simp [a,b,c]
  · refine Ev.bind (agh _ _ _ n.names _ (by omega)) ?_;simp only [nC,Option.bind_some];refine Ev.bind (wJ _ (by simp)) (Ev.some' ?_);unfold HZ;cases YH n<;>cases arT n<;>cases vC [] n.names<;>rfl
def Ca (n:Nd):Shape:=
  if n.kind=0 then Shape.mk (0,0) (0,0) false true else
  if n.kind=1\/n.kind=2 then Shape.mk (0,0) (0,0) true false else
  if n.kind=3 then(if(dK fH n.text).2=true then Shape.mk (0,0) ((n.args.length:Int),(n.args.length:Int)) true false else Shape.mk (0,0) (1,4) true false)else
  if n.kind=4\/n.kind=5 then Shape.mk (0,0) (0,30) false false else
  if n.kind=6\/n.kind=12 then Shape.mk (1,1) (2,2) false false else
  if n.kind=7\/n.kind=8\/n.kind=9\/n.kind=13 then Shape.mk (1,4) ((n.names.length:Int)+1,(n.names.length:Int)+1) false false else
  if n.kind=10\/n.kind=11 then Shape.mk (1,4) (1,1) false false else
  if n.kind=14 then Shape.mk (0,0) (2,5) false false else
  if n.kind=16\/n.kind=17 then Shape.mk (1,30) ((n.names.length:Int),(n.names.length:Int)) false false else
  if n.kind=18 then Shape.mk (0,0) (1,1) true false else
  if n.kind=19\/n.kind=21 then Shape.mk (0,0) (3,3) false false else
  if n.kind=20 then Shape.mk (0,0) (0,0) false false else
  if n.kind=22 then Shape.mk (0,0) (2,30) false false else
  if n.kind=23 then Shape.mk (1,5) (2,2) false true else
  if n.kind=24 then Shape.mk (1,4) (1,1) false false else Shape.mk (0,0) (2,2) false false
theorem kinds {k:Int} (h:gU k 0 28=true):k=0\/k=1\/k=2\/k=3\/k=4\/k=5\/k=6\/k=7\/k=8\/k=9\/k=10\/k=11\/k=12\/k=13\/k=14\/k=15\/k=16\/k=17\/k=18\/k=19\/k=20\/k=21\/k=22\/k=23\/k=24\/k=25\/k=26\/k=27\/k=28:=by
  unfold gU at h;rw [decide_eq_true_eq]at h;omega
theorem YI (n:Nd) (hk:gU n.kind 0 28=true) (h2:n.names.length<=1000000):Ev (fun k=>yN k n) (Ca n):=by
  have hw:IntKind.wrap .i64 ((n.names.length:Int)+1)=(n.names.length:Int)+1:=wrap64 (by omega) (by omega);rcases kinds hk with h|h|h|h|h|h|h|h|h|h|h|h|h|h|h|h|h|h|h|h|h|h|h|h|h|h|h|h|h
  case' inr.inr.inr.inl=>
    unfold yN vJ Ca;simp only [h];refine Ev.cF rfl ?_;refine Ev.cg (Ev.bind (uG n.text) (g:=fun k (qQ:Operator×Bool)=>cond qQ.2 (some (Shape.mk (0,0) ((n.args.length:Int),(n.args.length:Int)) true false)) (some (Shape.mk (0,0) (1,4) true false))) ?_) (fun k=>rfl);cases(dK fH n.text).2<;>exact Ev.some
  all_goals
    unfold yN vJ zM zN zO zP zQ zR tO Ca;simp only [h,hw];exact Ev.some
theorem anN (n:Nd) (hk:gU n.kind 0 28=true):(gU (n.names.length:Int) (Ca n).names.1 (Ca n).names.2&&gU (n.args.length:Int) (Ca n).operands.1 (Ca n).operands.2)=qX n:=by
  have d {a b:Int} (P:Prop) [Decidable P] (h:a=b) (x y:Int):gU a x y=gU b x y:=by rw [h]
  rcases kinds hk with h|h|h|h|h|h|h|h|h|h|h|h|h|h|h|h|h|h|h|h|h|h|h|h|h|h|h|h|h
  case' inr.inr.inr.inl=>
    unfold Ca qX;simp only [h];cases(dK fH n.text).2
    · show(gU _ 0 0&&gU _ 1 4)=(gU _ 0 0&&gU _ 1 4)
      simp [gV,qP,rX]
    · show(gU _ 0 0&&gU _ _ _)=(gU _ 0 0&&gU _ 0 _)
      unfold gU;simp [gV,qP,rX]
  all_goals
    unfold Ca qX;simp only [h];unfold gU;rw [Bool.eq_iff_iff];simp [gV,qP,rX,zk,zl,zm,zn,zo,zq];try omega
def clT (n:Nd):Bool:=((Ca n).text||decide (n.text=[]))&&((Ca n).number||decide (n.n=0))&&(!decide (n.kind=1)||vB n.text)&&(!decide (n.kind=23)||gU n.n 0 1)
theorem anO (n:Nd) (hk:gU n.kind 0 28=true):clT n=oo n:=by
  rcases kinds hk with h|h|h|h|h|h|h|h|h|h|h|h|h|h|h|h|h|h|h|h|h|h|h|h|h|h|h|h|h
  case' inr.inr.inr.inl=>
    unfold clT oo Ca;simp only [h];cases(dK fH n.text).2<;>simp
  all_goals
    unfold clT oo Ca;simp only [h];simp [and_comm]
theorem aen (n:Nd):HZ n=if tQ n≠0 then tQ n else if vC [] n.names=true then 12 else 0:=by
  unfold HZ YH arT tQ;cases n.names.all rName
  · simp
  by_cases a:n.kind=2
  · simp only [a];cases qW n.text<;>cases ji n.text<;>simp
  by_cases b:n.kind=3
  · simp only [b];cases(dK fH n.text).2<;>cases ji n.text<;>cases gU (n.args.length:Int) (dK fH n.text).1.least (dK fH n.text).1.most<;>simp
  by_cases c:n.kind=18
  · simp only [c];cases rName n.text<;>simp
  · simp [a,b,c]
theorem asV {e:List Nd} {i:Nat} {acc:List Int} (h:oP e i acc) (hi:i<=1000000) (l:List Int): ∀(m:Nat),m<=l.length-> ∀nx:Nat,nx<=i-> ∀tg:Bool,
    ∃z,mo m acc ((nx:Int) -1) tg l=some (if rD acc nx (l.take m).reverse=true then .inr (z,tg)else .inl (z,false)):=by
  intro m
  induction m with
  |zero=>intro _ nx _ tg;exact⟨(nx:Int) -1,by simp [mo,rD]⟩
  |succ m ih=>
    intro hm nx hnx tg;have hm':m<l.length:=by omega
    rw [mo,bM hm',Option.bind_some,Yj hm',rD];by_cases h1:l[m]=(nx:Int) -1
    · rw [kC (by rw [h1];simp)];by_cases h2:nx<1
      · refine⟨(nx:Int) -1,?_⟩;rw [pJ (decide_eq_true (by omega))];have: ¬(1:Int)<=nx:=by omega
        simp [this]
      · obtain⟨j,rfl⟩: ∃j,nx=j+1:=⟨nx -1,by omega⟩;have e2:(((j+1:Nat):Int) -1)=(j:Int):=by omega
        rw [e2]at h1⊢;obtain⟨n',b,h3,h4,h5,h6,_⟩:=h.at_ j (by omega);obtain⟨b,rfl⟩: ∃b':Nat,b=b':=⟨b.toNat,by omega⟩;obtain⟨z,hz⟩:=ih (by omega) b (by omega) tg;refine⟨z,?_⟩;rw [kC (decide_eq_false (by omega)),if_pos (by omega),Int.toNat_natCast,h4,Option.bind_some,wrap64 (by omega) (by omega),hz];have e3:(1:Int)<=((j+1:Nat):Int):=by omega
        simp only [h1,e3,decide_true,Bool.true_and,Option.getD_some]
    · refine⟨(nx:Int) -1,?_⟩;rw [pJ (by rw [bne_iff_ne];exact h1)];simp [h1]
theorem YJ {e:List Nd} {i:Nat} {acc:List Int} (h:oP e i acc) (hi:i<=1000000) {n:Nd} (hn:e[i]? =some n) (h1:n.text.length<=1000000) (h2:n.names.length<=1000000) (h3:n.args.length<=1000000):
    Ev (fun k=>BZ k e (i:Int) acc) (eH (rD acc i n.args.reverse) n):=by
  unfold BZ;simp only [Int.toNat_natCast,hn,Option.bind_some,nn,if_true,lV,nC];unfold eH;by_cases hk:gU n.kind 0 28=true
  case neg=>exact Ev.to (Ev.cF (by simpa [gU]using hk) Ev.some) (if_pos (by simpa using hk)).symm
  refine Ev.to ?_ (if_neg (by simp [hk])).symm;refine Ev.cT hk (Ev.bind (YI n hk h2) (Ev.jh (x:= !qX n) ?_ ?_))
  · rw [<-anN n hk];unfold zZ gU;simp only [lV,Option.bind_some];cases decide ((Ca n).names.1<=(n.names.length:Int)/\(n.names.length:Int)<=(Ca n).names.2)
    · rfl
    · rfl
  cases hs:qX n
  · exact Ev.some
  simp only [Bool.not_true,cond_false,Bool.true_eq_false,if_false];obtain⟨z,hz⟩:=asV h hi n.args n.args.length (Nat.le_refl _) i (Nat.le_refl _) true;rw [List.take_length]at hz;generalize rD acc (i:Int) n.args.reverse=pl at hz⊢;have hj:vO acc n.kind n.n n.text n.names n.args (IntKind.wrap .i64 ((i:Int) -1)) true=some (z,pl):=by
    unfold vO;rw [if_pos (by omega),wrap64 (by omega) (by omega),hz];cases pl<;>rfl
  refine Ev.jh hj (Ev.jh (x:=oo n) ?_ ?_)
  · rw [<-anO n hk];unfold Ae clT gU;simp only [aae,lV,Option.bind_some,G8,bne];have e1:((n.n==0):Bool)=decide (n.n=0):=by by_cases h:n.n=0<;>simp [h]
    have e2:((n.kind==1):Bool)=decide (n.kind=1):=by by_cases h:n.kind=1<;>simp [h]
    have e3:((n.kind==23):Bool)=decide (n.kind=23):=by by_cases h:n.kind=23<;>simp [h]
    simp only [e1,e2,e3];cases(Ca n).text<;>cases(Ca n).number<;>cases decide (n.text=[])<;>cases decide (n.n=0)<;>cases decide (n.kind=1)<;>cases vB n.text<;>cases decide (n.kind=23)<;>rfl
  have fin:Ev (fun k=>Option.bind (nD k n) fun p=>Option.bind (fG k [if(!(pl&&oo n))=true then 5 else 0,if(!decide (n.kind=23)&& !gU n.n 0 10000)=true then 3 else 0,p]) fun q=>some q) (vS [if(!(pl&&oo n))=true then 5 else 0,if(!decide (n.kind=23)&& !gU n.n 0 10000)=true then 3 else 0,HZ n]):=
    Ev.bind (VR n h1 h2) (Ev.bind (wJ _ (by simp)) Ev.some)
  have hval:vS [if(!(pl&&oo n))=true then 5 else 0,if(!decide (n.kind=23)&& !gU n.n 0 10000)=true then 3 else 0,HZ n]=
      if(pl&&oo n)=false then 5 else if(decide (n.kind=0)&& !gU n.n 0 10000)=true then 3 else if tQ n≠0 then tQ n else if vC [] n.names=true then 12 else 0:=by
    rw [<-aen];cases hpc:(pl&&oo n)
    · rfl
    · have hcl:oo n=true:=by revert hpc;cases pl<;>simp
      have hrg:(!decide (n.kind=23)&& !gU n.n 0 10000)=(decide (n.kind=0)&& !gU n.n 0 10000):=by
        unfold oo at hcl;simp only [Bool.and_eq_true]at hcl;have hx:=hcl.1.1.2;by_cases a:n.kind=0
        · simp [a]
        by_cases b:n.kind=23
        · simp [b]
        have hx:n.n=0:=by simpa [a,b]using hx
        simp [a,b,hx,gU]
      simp only [Bool.not_true,Bool.false_eq_true,if_false,Bool.true_eq_false,vS,if_true,hrg];cases(decide (n.kind=0)&& !gU n.n 0 10000)
      · simp only [Bool.false_eq_true,if_false,if_true];split
        · rename_i h;exact h.symm
        · rfl
      · rfl
  rw [<-hval];refine Ev.cg fin fun k=> ?_;cases pl
  · simp only [cond_false];by_cases hl:n.kind=23
    · simp only [hl];rfl
    · rw [kC (beq_eq_false_iff_ne.2 hl)];simp only [hl,decide_false,Bool.not_false,Bool.true_and,Bool.false_and];rfl
  · simp only [cond_true];by_cases hl:n.kind=23
    · simp only [hl];rfl
    · rw [kC (beq_eq_false_iff_ne.2 hl)];simp only [hl,decide_false,Bool.not_false,Bool.true_and];rfl
theorem Ms {e:List Nd} (hL:jd e): ∀i,i<=e.length-> ∀acc,oP e i acc->Ev (fun k=>jA k e acc (e.length:Int) (i:Int)) (mI acc (e.drop i)):=by
  have hlen:=hL.len;refine down (fun acc h=> ?_) (fun i hi ih acc h=> ?_)
  · refine Ev.succ ?_;simp only [jA];exact Ev.cF (kV _) (Ev.some' (by simp [mI]))
  · refine Ev.succ ?_;obtain⟨h1,h2,h3⟩:=hL.nd i _ (bM hi);simp only [jA];refine Ev.cT (mZ hi) (Ev.bind (YJ h (by omega) (bM hi) h1 h2 h3) ?_);rw [drop_cons hi,mI,h.len];by_cases hc:eH (rD acc i e[i].args.reverse) e[i]=0
    · refine Ev.cF (by rw [hc];rfl) ?_;have acw:=h.len;have hp:=xw hc;have hok:=h.succ (bM hi) hp;refine Ev.kg (by omega) (Ev.jh (x:=yu acc e[i]) ?_ (Ev.kg (nn i) (Ev.jh (x:=0) ?_ ?_)))
      · unfold LY yu;simp only [Int.toNat_natCast,bM hi,Option.bind_some,nn,if_true];cases hargs:e[i].args with
        |nil=>simp [acw]
        |cons a l=>
          have ha:=Tx h _ i (Nat.le_refl _) hp a (by rw [hargs];simp);obtain⟨n',b,h4,h5,_⟩:=h.at_ a.toNat (by omega);rw [kC (by rw [beq_eq_false_iff_ne,List.length_cons];omega),List.getElem?_cons_zero,Option.bind_some,if_pos ha.1,List.getElem?_append_left (by omega),h5];simp only [h5,Option.getD_some,Option.bind_some]
      · rw [Int.toNat_natCast,List.getElem?_append_right (by omega),acw,Nat.sub_self];rfl
      · have e1:(acc++[0]).set ((i:Int).toNat) (yu acc e[i])=acc++[yu acc e[i]]:=by
          rw [Int.toNat_natCast,List.set_append_right _ _ (by omega),acw,Nat.sub_self];rfl
        rw [e1,fK hi (by omega)];refine(ih _ hok).to ?_;simp only [hc,ne_eq,not_true_eq_false,if_false]
    · refine Ev.cT (by rw [bne_iff_ne];exact hc) (Ev.some' ?_);simp only [ne_eq,hc,not_false_eq_true,if_true]
inductive Tm where
  |mk (x:Nd) (cs:List Tm)
namespace Tm
mutual
def size:Tm->Nat
  | .mk _ cs=>sizes cs+1
def sizes:List Tm->Nat
  |[]=>0
  |c::cs=>size c+sizes cs
end
def roots:Nat->List Tm->List Int
  |_,[]=>[]
  |b,c::cs=>((b+c.size -1:Nat):Int)::roots (b+c.size) cs
def nd (x:Nd) (b:Nat) (cs:List Tm):Nd:={x with args:=roots b cs}
mutual
def flat (b:Nat):Tm->List Nd
  | .mk x cs=>bL b cs++[nd x b cs]
def bL (b:Nat):List Tm->List Nd
  |[]=>[]
  |c::cs=>flat b c++bL (b+c.size) cs
end
theorem iJ {b:Nat} {x:Nd} {cs:List Tm}:flat b (.mk x cs)=bL b cs++[nd x b cs]:=by rw [flat]
theorem gK {b:Nat} {c:Tm} {cs:List Tm}:bL b (c::cs)=flat b c++bL (b+c.size) cs:=by rw [bL]
theorem size_pos: ∀t:Tm,0<t.size
  | .mk x cs=>by unfold size;omega
mutual
theorem bV (b:Nat): ∀t:Tm,(flat b t).length=t.size
  | .mk x cs=>by unfold flat size;rw [List.length_append,dW b cs];rfl
theorem dW (b:Nat): ∀cs:List Tm,(bL b cs).length=sizes cs
  |[]=>rfl
  |c::cs=>by unfold bL sizes;rw [List.length_append,bV b c,dW (b+c.size) cs]
end
theorem qd: ∀(b:Nat) (cs:List Tm),(roots b cs).length=cs.length
  |_,[]=>rfl
  |b,c::cs=>by unfold roots;rw [List.length_cons,List.length_cons,qd (b+c.size) cs]
theorem dU: ∀a b:List Tm,sizes (a++b)=sizes a+sizes b
  |[],b=>by simp [sizes]
  |c::a,b=>by simp only [List.cons_append,sizes,dU a b];omega
theorem vT: ∀(b:Nat) (l m:List Tm),bL b (l++m)=bL b l++bL (b+sizes l) m
  |b,[],m=>by simp [bL,sizes]
  |b,c::l,m=>by simp only [List.cons_append,bL,sizes,vT (b+c.size) l m,List.append_assoc,Nat.add_assoc]
theorem Ah: ∀(b:Nat) (l m:List Tm),roots b (l++m)=roots b l++roots (b+sizes l) m
  |b,[],m=>by simp [roots,sizes]
  |b,c::l,m=>by simp only [List.cons_append,roots,sizes,Ah (b+c.size) l m,Nat.add_assoc]
def Seg (e:List Nd) (b:Nat) (s:Tm):Prop:= ∃pre post,e=pre++(flat b s++post)/\pre.length=b
theorem Seg.whole (t:Tm):Seg (flat 0 t) 0 t:=⟨[],[],by simp,rfl⟩
theorem Seg.lt {e:List Nd} {b:Nat} {s:Tm} (h:Seg e b s):b+s.size<=e.length:=by
  obtain⟨pre,post,rfl,rfl⟩:=h;simp only [List.length_append,bV];omega
theorem Seg.node {e:List Nd} {b:Nat} {x:Nd} {cs:List Tm} (h:Seg e b (.mk x cs)):e[b+sizes cs]? =some (nd x b cs):=by
  obtain⟨pre,post,rfl,rfl⟩:=h;rw [List.getElem?_append_right (by omega),show pre.length+sizes cs -pre.length=sizes cs by omega];rw [iJ,List.append_assoc,List.getElem?_append_right (by rw [dW];exact Nat.le_refl _),dW,Nat.sub_self];rfl
theorem Seg.kid {e:List Nd} {b:Nat} {x:Nd} {l m:List Tm} {c:Tm} (h:Seg e b (.mk x (l++c::m))):Seg e (b+sizes l) c:=by
  obtain⟨pre,post,rfl,rfl⟩:=h;refine⟨pre++bL pre.length l,bL (pre.length+sizes l+c.size) m++([nd x pre.length (l++c::m)]++post),?_,by rw [List.length_append,dW]⟩;rw [iJ,vT,gK];simp only [List.append_assoc]
theorem Cb {b:Nat} {l m:List Tm} {c:Tm}:(roots b (l++c::m))[l.length]? =some (((b+sizes l+c.size -1:Nat):Int)):=by
  rw [Ah,List.getElem?_append_right (by rw [qd];exact Nat.le_refl _),qd,Nat.sub_self];rfl
end Tm
end Go.VL
end
