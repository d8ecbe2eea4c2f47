/- Part 5 of the proof: what the theorem rests on. -/
import Derived.Test.YthebklihgmhgoaaGreatDoorKd4
import Derived.Shelf.Spec.SlicesGrow
import Derived.Shelf.Strings.Builder1
import Derived.Shelf.Strings.Builder2
import Derived.Shelf.Strings.OnBuilder
import Derived.Shelf.Small.Bits
import Derived.Shelf.Strings.Builder2Cap
import Derived.Shelf.Strconv.Itoa0
import Derived.Shelf.Strconv.Itoa1
import Derived.Shelf.LaysM
import Derived.Shelf.Strconv.Itoa2
import Derived.Shelf.Strconv.Itoa3
import Derived.Shelf.Strings.Search1
import Derived.Shelf.Strings.Search2
import Derived.Shelf.Strings.Cut
import Derived.Shelf.Strings.Shaped
import Derived.Shelf.Sort.Plain
import Derived.Shelf.GgClosure.StringsIndexFunc
import Derived.Ground.GgwProg
import Derived.Shelf.GgClosure.StringsIndexFuncTop
import Derived.Shelf.Strings.Prefix
import Derived.Shelf.Strings.Fields
import Derived.Shelf.Unicode.Latin
import Derived.Shelf.Bits.Mul64
import Derived.Shelf.Unicode.Is16White
import Derived.Shelf.Unicode.IsSpaceAny
import Derived.Shelf.Unicode.Is16WhiteD
import Derived.Shelf.Unicode.IsSpaceAnyD
import Derived.Shelf.Strings.FieldsAny
import Derived.Shelf.Strings.FieldsFuncAny
import Derived.Shelf.Unicode.Is16Any
import Derived.Shelf.Unicode.Is32Any
import Derived.Shelf.Unicode.ExclAny
import Derived.Shelf.Strings.FuncGrows
import Derived.Shelf.Slices.Equal
import Derived.Ground.Names2Prog
import Derived.Shelf.Slices.Clone
import Derived.Shelf.Slices.CompactS
import Derived.Shelf.Slices.Cells
import Derived.Shelf.Slices.In.SortNone
import Derived.Shelf.Slices.Empties2
import Derived.Test.YthebklihgmhgoaaGreatDoorProg
import Derived.KernelRfl
import Derived.Laws.RangeAny
import Derived.IntWalk
import Derived.Test.YthebklihgmhgoaaGreatDoorRows
import Derived.RangeFuncOwn
import Derived.TacticsIn
import Derived.TacticsInMore
import Derived.LoopIn
import Derived.Walk
import Derived.WalkKit
set_option linter.unusedVariables false
set_option linter.unusedSectionVars false
set_option linter.unusedSimpArgs false
section
namespace Go.Proofs
open Go.Shelf
def Tryz.lays156_ren : Go.Shelf.Ren := ⟨fun | 156 => 151 | 165 => 191 | 166 => 192 | 169 => 193 | 240 => 208 | 241 => 209 | 276 => 215 | 277 => 216 | n => n, fun | 31 => 37 | 9 => 9 | 3 => 3 | 4 => 4 | 0 => 0 | 20 => 20 | 72 => 204 | 76 => 208 | 70 => 202 | 37 => 141 | 75 => 207 | 127 => 220 | 164 => 231 | 5 => 5 | 80 => 149 | n => n, fun | n => n⟩
theorem Tryz.lays156 : Go.Proofs.Lays.n156 Tryz.prog Tryz.lays156_ren := {
  mixed := by kernel_rfl
  f156 := Tryz.func151.trans (congrArg some (by kernel_rfl))
  f165 := Tryz.func191.trans (congrArg some (by kernel_rfl))
  f166 := Tryz.func192.trans (congrArg some (by kernel_rfl))
  f169 := Tryz.func193.trans (congrArg some (by kernel_rfl))
  f240 := Tryz.func208.trans (congrArg some (by kernel_rfl))
  f241 := Tryz.func209.trans (congrArg some (by kernel_rfl))
  f276 := Tryz.func215.trans (congrArg some (by kernel_rfl))
  f277 := Tryz.func216.trans (congrArg some (by kernel_rfl))
  t0 := Tryz.underlying0
  a0 := Tryz.isAgg0
  z0 := Tryz.sizeOf0
  v0 := Tryz.zeroValue0
  t3 := Tryz.underlying3
  a3 := Tryz.isAgg3
  z3 := Tryz.sizeOf3
  v3 := Tryz.zeroValue3
  t4 := Tryz.underlying4
  a4 := Tryz.isAgg4
  z4 := Tryz.sizeOf4
  v4 := Tryz.zeroValue4
  t9 := Tryz.underlying9
  a9 := Tryz.isAgg9
  z9 := Tryz.sizeOf9
  v9 := Tryz.zeroValue9
  t20 := Tryz.underlying20
  a20 := Tryz.isAgg20
  z20 := Tryz.sizeOf20
  v20 := Tryz.zeroValue20
  t31 := Tryz.underlying37
  a31 := Tryz.isAgg37
  z31 := Tryz.sizeOf37
  v31 := Tryz.zeroValue37
  t37 := Tryz.underlying141
  a37 := Tryz.isAgg141
  z37 := Tryz.sizeOf141
  v37 := Tryz.zeroValue141
  t70 := Tryz.underlying202
  a70 := Tryz.isAgg202
  z70 := Tryz.sizeOf202
  v70 := Tryz.zeroValue202
  t72 := Tryz.underlying204
  a72 := Tryz.isAgg204
  z72 := Tryz.sizeOf204
  v72 := Tryz.zeroValue204
  t75 := Tryz.underlying207
  a75 := Tryz.isAgg207
  z75 := Tryz.sizeOf207
  v75 := Tryz.zeroValue207
  t76 := Tryz.underlying208
  a76 := Tryz.isAgg208
  z76 := Tryz.sizeOf208
  v76 := Tryz.zeroValue208
  t127 := Tryz.underlying220
  a127 := Tryz.isAgg220
  z127 := Tryz.sizeOf220
  v127 := Tryz.zeroValue220
  t164 := Tryz.underlying231
  a164 := Tryz.isAgg231
  z164 := Tryz.sizeOf231
  v164 := Tryz.zeroValue231 }
theorem Tryz.Builder_Extra_156 : Builder.Extra Tryz.prog Tryz.lays156_ren := {
  sizeBuilder := by kernel_rfl
  liesBuilder := by kernel_rfl
  t5 := Tryz.underlying5
  a5 := Tryz.isAgg5
  z5 := Tryz.sizeOf5
  v5 := Tryz.zeroValue5
  infoByte := by kernel_rfl
  cellsByte := by kernel_rfl
  sizeByte := by kernel_rfl
  neB5 := by decide }
open Go.RowKit in
theorem Tryz.strings_Join_none (a : Option Addr) (c : Nat) (sep : ByteArray) (w : World) :
    Calls Tryz.prog 151 #[.slice a 0 c, .string sep] w fun e w' => e = .returned (.string ⟨#[]⟩) /\ w' = w := Any.strings_Join_none Tryz.lays156 Tryz.Builder_Extra_156 a c sep w
open Go.RowKit in
theorem Tryz.strings_Join (bk o c : Nat) (xs : List ByteArray) (sep : ByteArray) (w : World) (hcells : ∀ (j : Nat) x, xs[j]? = some x -> w.cell? ⟨bk, o + j, none⟩ = some (.string x)) (hbk : bk < w.heap.size) (hN : xs.length <= 140737488355328) (hcap : xs.length <= c) (hlen : (Lib.join (xs.map (·.data.toList)) sep.data.toList).length <= 140737488355328) :
    Calls Tryz.prog 151 #[.slice (some ⟨bk, o, none⟩) xs.length c, .string sep] w fun e w' => e = .returned (.string ⟨(Lib.join (xs.map (·.data.toList)) sep.data.toList).toArray⟩) /\ Below w.heap.size w w' := Any.strings_Join Tryz.lays156 Tryz.Builder_Extra_156 bk o c xs sep w hcells hbk hN hcap hlen
def Tryz.laysM246_ren : Go.Shelf.Ren := ⟨fun | 246 => 210 | 283 => 217 | 284 => 218 | 285 => 219 | 286 => 220 | 129 => 178 | 317 => 227 | 318 => 228 | 319 => 229 | 320 => 230 | 337 => 233 | 338 => 234 | n => n, fun | 2 => 2 | 3 => 3 | 9 => 9 | 4 => 4 | 171 => 234 | 0 => 0 | 53 => 183 | 37 => 141 | 5 => 5 | 173 => 236 | 212 => 250 | 51 => 181 | 20 => 20 | 213 => 251 | 46 => 138 | 232 => 255 | 233 => 256 | n => n, fun | 17 => 3 | 18 => 4 | 19 => 5 | n => n⟩
def Tryz.laysM243_ren : Go.Shelf.Ren := ⟨fun | 243 => 194 | 246 => 210 | 283 => 217 | 284 => 218 | 285 => 219 | 286 => 220 | 129 => 178 | 317 => 227 | 318 => 228 | 319 => 229 | 320 => 230 | 337 => 233 | 338 => 234 | n => n, fun | 3 => 3 | 9 => 9 | 2 => 2 | 4 => 4 | 171 => 234 | 0 => 0 | 53 => 183 | 37 => 141 | 5 => 5 | 173 => 236 | 212 => 250 | 51 => 181 | 20 => 20 | 213 => 251 | 46 => 138 | 232 => 255 | 233 => 256 | n => n, fun | 17 => 3 | 18 => 4 | 19 => 5 | n => n⟩
def Tryz.laysM171_ren : Go.Shelf.Ren := ⟨fun | 171 => 152 | 243 => 194 | 246 => 210 | 283 => 217 | 284 => 218 | 285 => 219 | 286 => 220 | 129 => 178 | 317 => 227 | 318 => 228 | 319 => 229 | 320 => 230 | 337 => 233 | 338 => 234 | n => n, fun | 3 => 3 | 9 => 9 | 2 => 2 | 4 => 4 | 171 => 234 | 0 => 0 | 53 => 183 | 37 => 141 | 5 => 5 | 173 => 236 | 212 => 250 | 51 => 181 | 20 => 20 | 213 => 251 | 46 => 138 | 232 => 255 | 233 => 256 | n => n, fun | 17 => 3 | 18 => 4 | 19 => 5 | n => n⟩
def Tryz.lays171_ren : Go.Shelf.Ren := ⟨fun | 171 => 152 | 243 => 194 | 246 => 210 | 283 => 217 | 284 => 218 | 285 => 219 | 286 => 220 | 129 => 178 | 317 => 227 | 318 => 228 | 319 => 229 | 320 => 230 | 337 => 233 | 338 => 234 | n => n, fun | 3 => 3 | 9 => 9 | 2 => 2 | 4 => 4 | 171 => 234 | 0 => 0 | 53 => 183 | 37 => 141 | 5 => 5 | 173 => 236 | 212 => 250 | 51 => 181 | 20 => 20 | 213 => 251 | 46 => 138 | 232 => 255 | 233 => 256 | n => n, fun | 17 => 3 | 18 => 4 | 19 => 5 | n => n⟩
theorem Tryz.lays171 : Go.Proofs.Lays.n171 Tryz.prog Tryz.lays171_ren := {
  mixed := by kernel_rfl
  f129 := Tryz.func178.trans (congrArg some (by kernel_rfl))
  f171 := Tryz.func152.trans (congrArg some (by kernel_rfl))
  f243 := Tryz.func194.trans (congrArg some (by kernel_rfl))
  f246 := Tryz.func210.trans (congrArg some (by kernel_rfl))
  f283 := Tryz.func217.trans (congrArg some (by kernel_rfl))
  f284 := Tryz.func218.trans (congrArg some (by kernel_rfl))
  f285 := Tryz.func219.trans (congrArg some (by kernel_rfl))
  f286 := Tryz.func220.trans (congrArg some (by kernel_rfl))
  f317 := Tryz.func227.trans (congrArg some (by kernel_rfl))
  f318 := Tryz.func228.trans (congrArg some (by kernel_rfl))
  f319 := Tryz.func229.trans (congrArg some (by kernel_rfl))
  f320 := Tryz.func230.trans (congrArg some (by kernel_rfl))
  f337 := Tryz.func233.trans (congrArg some (by kernel_rfl))
  f338 := Tryz.func234.trans (congrArg some (by kernel_rfl))
  t0 := Tryz.underlying0
  a0 := Tryz.isAgg0
  z0 := Tryz.sizeOf0
  v0 := Tryz.zeroValue0
  t2 := Tryz.underlying2
  a2 := Tryz.isAgg2
  z2 := Tryz.sizeOf2
  v2 := Tryz.zeroValue2
  t3 := Tryz.underlying3
  a3 := Tryz.isAgg3
  z3 := Tryz.sizeOf3
  v3 := Tryz.zeroValue3
  t4 := Tryz.underlying4
  a4 := Tryz.isAgg4
  z4 := Tryz.sizeOf4
  v4 := Tryz.zeroValue4
  t5 := Tryz.underlying5
  a5 := Tryz.isAgg5
  z5 := Tryz.sizeOf5
  v5 := Tryz.zeroValue5
  t9 := Tryz.underlying9
  a9 := Tryz.isAgg9
  z9 := Tryz.sizeOf9
  v9 := Tryz.zeroValue9
  t20 := Tryz.underlying20
  a20 := Tryz.isAgg20
  z20 := Tryz.sizeOf20
  v20 := Tryz.zeroValue20
  t37 := Tryz.underlying141
  a37 := Tryz.isAgg141
  z37 := Tryz.sizeOf141
  v37 := Tryz.zeroValue141
  t46 := Tryz.underlying138
  a46 := Tryz.isAgg138
  z46 := Tryz.sizeOf138
  v46 := Tryz.zeroValue138
  t51 := Tryz.underlying181
  a51 := Tryz.isAgg181
  z51 := Tryz.sizeOf181
  v51 := Tryz.zeroValue181
  t53 := Tryz.underlying183
  a53 := Tryz.isAgg183
  z53 := Tryz.sizeOf183
  v53 := Tryz.zeroValue183
  t171 := Tryz.underlying234
  a171 := Tryz.isAgg234
  z171 := Tryz.sizeOf234
  v171 := Tryz.zeroValue234
  t173 := Tryz.underlying236
  a173 := Tryz.isAgg236
  z173 := Tryz.sizeOf236
  v173 := Tryz.zeroValue236
  t212 := Tryz.underlying250
  a212 := Tryz.isAgg250
  z212 := Tryz.sizeOf250
  v212 := Tryz.zeroValue250
  t213 := Tryz.underlying251
  a213 := Tryz.isAgg251
  z213 := Tryz.sizeOf251
  t232 := Tryz.underlying255
  a232 := Tryz.isAgg255
  z232 := Tryz.sizeOf255
  v232 := Tryz.zeroValue255
  t233 := Tryz.underlying256
  a233 := Tryz.isAgg256
  z233 := Tryz.sizeOf256
  v233 := Tryz.zeroValue256
  g17 := by kernel_rfl
  g18 := by kernel_rfl
  g19 := by kernel_rfl }
open Go.RowKit Go.Sort Go.Lib in
theorem Tryz.strconv_Itoa_small (i : Nat) (hi : i < 100) (w : World) :
    Calls Tryz.prog 152 #[.int .i64 i] w fun e w' => e = .returned (.string ⟨(Lib.decDigits i).toArray⟩) /\ w' = w := Any.strconv_Itoa_small Tryz.lays171 i hi w
def Tryz.lays219_ren : Go.Shelf.Ren := ⟨fun | 219 => 214 | 217 => 223 | 225 => 224 | 224 => 225 | 267 => 226 | 266 => 231 | 314 => 232 | n => n, fun | 9 => 9 | 3 => 3 | 4 => 4 | 5 => 5 | 46 => 138 | 146 => 197 | 51 => 181 | n => n, fun | 1 => 2 | n => n⟩
theorem Tryz.lays219 : Go.Proofs.Lays.n219 Tryz.prog Tryz.lays219_ren := {
  mixed := by kernel_rfl
  f217 := Tryz.func223.trans (congrArg some (by kernel_rfl))
  f219 := Tryz.func214.trans (congrArg some (by kernel_rfl))
  f224 := Tryz.func225.trans (congrArg some (by kernel_rfl))
  f225 := Tryz.func224.trans (congrArg some (by kernel_rfl))
  f266 := Tryz.func231.trans (congrArg some (by kernel_rfl))
  f267 := Tryz.func226.trans (congrArg some (by kernel_rfl))
  f314 := Tryz.func232.trans (congrArg some (by kernel_rfl))
  t3 := Tryz.underlying3
  a3 := Tryz.isAgg3
  z3 := Tryz.sizeOf3
  v3 := Tryz.zeroValue3
  t4 := Tryz.underlying4
  a4 := Tryz.isAgg4
  z4 := Tryz.sizeOf4
  v4 := Tryz.zeroValue4
  t5 := Tryz.underlying5
  a5 := Tryz.isAgg5
  z5 := Tryz.sizeOf5
  v5 := Tryz.zeroValue5
  t9 := Tryz.underlying9
  a9 := Tryz.isAgg9
  z9 := Tryz.sizeOf9
  v9 := Tryz.zeroValue9
  t46 := Tryz.underlying138
  a46 := Tryz.isAgg138
  z46 := Tryz.sizeOf138
  v46 := Tryz.zeroValue138
  t51 := Tryz.underlying181
  a51 := Tryz.isAgg181
  z51 := Tryz.sizeOf181
  v51 := Tryz.zeroValue181
  t146 := Tryz.underlying197
  a146 := Tryz.isAgg197
  z146 := Tryz.sizeOf197
  v146 := Tryz.zeroValue197
  g1 := by kernel_rfl }
open Go.RowKit Go.Lib in
theorem Tryz.stringslite_Index_one (s : ByteArray) (c : UInt8) (w : World) :
    Calls Tryz.prog 214 #[.string s, .string ⟨#[c]⟩] w fun e w' => e = .returned (.int .i64 (Lib.indexByte s.data.toList c)) /\ w' = w := Any.stringslite_Index_one Tryz.lays219 s c w
def Tryz.lays190_ren : Go.Shelf.Ren := ⟨fun | 190 => 66 | 125 => 117 | 258 => 116 | 128 => 177 | 129 => 178 | 302 => 168 | 303 => 169 | 304 => 170 | 305 => 171 | 306 => 172 | 307 => 173 | 308 => 174 | 309 => 175 | 310 => 176 | 333 => 197 | 329 => 198 | 330 => 199 | 334 => 200 | 335 => 201 | 336 => 202 | 344 => 212 | n => n, fun | 31 => 37 | 9 => 9 | 3 => 3 | 46 => 138 | 0 => 0 | 51 => 181 | 53 => 183 | 4 => 4 | 183 => 174 | 182 => 173 | 131 => 178 | 5 => 5 | 218 => 210 | 222 => 214 | 228 => 223 | 229 => 30 | n => n, fun | n => n⟩
theorem Tryz.lays190 : Go.Proofs.Lays.n190 Tryz.prog Tryz.lays190_ren := {
  mixed := by kernel_rfl
  f125 := Tryz.func117.trans (congrArg some (by kernel_rfl))
  f128 := Tryz.func177.trans (congrArg some (by kernel_rfl))
  f129 := Tryz.func178.trans (congrArg some (by kernel_rfl))
  f190 := Tryz.func66.trans (congrArg some (by kernel_rfl))
  f258 := Tryz.func116.trans (congrArg some (by kernel_rfl))
  f302 := Tryz.func168.trans (congrArg some (by kernel_rfl))
  f303 := Tryz.func169.trans (congrArg some (by kernel_rfl))
  f304 := Tryz.func170.trans (congrArg some (by kernel_rfl))
  f305 := Tryz.func171.trans (congrArg some (by kernel_rfl))
  f306 := Tryz.func172.trans (congrArg some (by kernel_rfl))
  f307 := Tryz.func173.trans (congrArg some (by kernel_rfl))
  f308 := Tryz.func174.trans (congrArg some (by kernel_rfl))
  f309 := Tryz.func175.trans (congrArg some (by kernel_rfl))
  f310 := Tryz.func176.trans (congrArg some (by kernel_rfl))
  f329 := Tryz.func198.trans (congrArg some (by kernel_rfl))
  f330 := Tryz.func199.trans (congrArg some (by kernel_rfl))
  f333 := Tryz.func197.trans (congrArg some (by kernel_rfl))
  f334 := Tryz.func200.trans (congrArg some (by kernel_rfl))
  f335 := Tryz.func201.trans (congrArg some (by kernel_rfl))
  f336 := Tryz.func202.trans (congrArg some (by kernel_rfl))
  f344 := Tryz.func212.trans (congrArg some (by kernel_rfl))
  t0 := Tryz.underlying0
  a0 := Tryz.isAgg0
  z0 := Tryz.sizeOf0
  v0 := Tryz.zeroValue0
  t3 := Tryz.underlying3
  a3 := Tryz.isAgg3
  z3 := Tryz.sizeOf3
  v3 := Tryz.zeroValue3
  t4 := Tryz.underlying4
  a4 := Tryz.isAgg4
  z4 := Tryz.sizeOf4
  v4 := Tryz.zeroValue4
  t5 := Tryz.underlying5
  a5 := Tryz.isAgg5
  z5 := Tryz.sizeOf5
  v5 := Tryz.zeroValue5
  t9 := Tryz.underlying9
  a9 := Tryz.isAgg9
  z9 := Tryz.sizeOf9
  v9 := Tryz.zeroValue9
  t31 := Tryz.underlying37
  a31 := Tryz.isAgg37
  z31 := Tryz.sizeOf37
  v31 := Tryz.zeroValue37
  t46 := Tryz.underlying138
  a46 := Tryz.isAgg138
  z46 := Tryz.sizeOf138
  v46 := Tryz.zeroValue138
  t51 := Tryz.underlying181
  a51 := Tryz.isAgg181
  z51 := Tryz.sizeOf181
  v51 := Tryz.zeroValue181
  t53 := Tryz.underlying183
  a53 := Tryz.isAgg183
  z53 := Tryz.sizeOf183
  v53 := Tryz.zeroValue183
  t131 := Tryz.underlying178
  a131 := Tryz.isAgg178
  z131 := Tryz.sizeOf178
  v131 := Tryz.zeroValue178
  t182 := Tryz.underlying173
  a182 := Tryz.isAgg173
  z182 := Tryz.sizeOf173
  v182 := Tryz.zeroValue173
  t183 := Tryz.underlying174
  a183 := Tryz.isAgg174
  z183 := Tryz.sizeOf174
  v183 := Tryz.zeroValue174
  t218 := Tryz.underlying210
  a218 := Tryz.isAgg210
  z218 := Tryz.sizeOf210
  v218 := Tryz.zeroValue210
  t222 := Tryz.underlying214
  a222 := Tryz.isAgg214
  z222 := Tryz.sizeOf214
  v222 := Tryz.zeroValue214
  t228 := Tryz.underlying223
  a228 := Tryz.isAgg223
  z228 := Tryz.sizeOf223
  v228 := Tryz.zeroValue223
  t229 := Tryz.underlying30
  a229 := Tryz.isAgg30
  z229 := Tryz.sizeOf30
  v229 := Tryz.zeroValue30 }
open Go.Sort Go.RowKit in
theorem Tryz.slices_Sort_string (blk off cap : Nat) (ss : List (List UInt8)) (w : World) (hH : Holds encStr w blk off ss.toArray) (hblk : blk < w.heap.size) (hsz : ss.length < 4611686018427387904) :
    Calls Tryz.prog 66 #[.slice (some ⟨blk, off, none⟩) ss.length cap] w fun e w' =>
      e = .returned (.tuple #[]) /\ ∃ n os, w' = grow (putRow encStr (Sort.ahead w n) blk off (ss.mergeSort fun x y => decide (x <= y)).toArray) os := Any.slices_Sort_string Tryz.lays190 blk off cap ss w hH hblk hsz
def Tryz.laysGw17_ren : Go.Shelf.Ren := ⟨fun | 17 => 143 | 15 => 185 | 20 => 206 | n => n, fun | 9 => 9 | 23 => 152 | 4 => 4 | 3 => 3 | 0 => 0 | 21 => 21 | n => n, fun | n => n⟩
theorem Tryz.laysGw17 : Go.Proofs.LaysGw.n17 Tryz.prog Tryz.laysGw17_ren := {
  mixed := by kernel_rfl
  f15 := Tryz.func185.trans (congrArg some (by kernel_rfl))
  f17 := Tryz.func143.trans (congrArg some (by kernel_rfl))
  f20 := Tryz.func206.trans (congrArg some (by kernel_rfl))
  t0 := Tryz.underlying0
  a0 := Tryz.isAgg0
  z0 := Tryz.sizeOf0
  v0 := Tryz.zeroValue0
  i0 := by kernel_rfl
  t3 := Tryz.underlying3
  a3 := Tryz.isAgg3
  z3 := Tryz.sizeOf3
  v3 := Tryz.zeroValue3
  i3 := by kernel_rfl
  t4 := Tryz.underlying4
  a4 := Tryz.isAgg4
  z4 := Tryz.sizeOf4
  v4 := Tryz.zeroValue4
  i4 := by kernel_rfl
  t9 := Tryz.underlying9
  a9 := Tryz.isAgg9
  z9 := Tryz.sizeOf9
  v9 := Tryz.zeroValue9
  i9 := by kernel_rfl
  t21 := Tryz.underlying21
  a21 := Tryz.isAgg21
  z21 := Tryz.sizeOf21
  v21 := Tryz.zeroValue21
  i21 := by kernel_rfl
  t23 := Tryz.underlying152
  a23 := Tryz.isAgg152
  z23 := Tryz.sizeOf152
  v23 := Tryz.zeroValue152
  i23 := by kernel_rfl }
def Tryz.lays264_ren : Go.Shelf.Ren := ⟨fun | 264 => 189 | n => n, fun | 53 => 183 | 46 => 138 | n => n, fun | n => n⟩
theorem Tryz.lays264 : Go.Proofs.Lays.n264 Tryz.prog Tryz.lays264_ren := {
  mixed := by kernel_rfl
  f264 := Tryz.func189.trans (congrArg some (by kernel_rfl))
  t46 := Tryz.underlying138
  a46 := Tryz.isAgg138
  z46 := Tryz.sizeOf138
  v46 := Tryz.zeroValue138
  t53 := Tryz.underlying183
  a53 := Tryz.isAgg183
  z53 := Tryz.sizeOf183
  v53 := Tryz.zeroValue183 }
open Go.RowKit Go.Lib in
theorem Tryz.bits_Mul64 (x y : Nat) (hx : x < 18446744073709551616) (hy : y < 18446744073709551616) (w : World) :
    Calls Tryz.prog 189 #[.int .u64 x, .int .u64 y] w fun e w' => e = .returned (.tuple #[.int .u64 ((x * y / 18446744073709551616 : Nat) : Int), .int .u64 ((x * y % 18446744073709551616 : Nat) : Int)]) /\ w' = w := Any.bits_Mul64 Tryz.lays264 x y hx hy w
open Go.RowKit Go.Lib in
theorem Tryz.strings_ContainsFunc_grows (g : Nat) (lb : Array Value) (eg : ∀ args w, (callFunc g args).run Tryz.prog w = .ok (.enter g args) w) (p : Nat -> Bool) (s : ByteArray) (w : World) (hp : PredGrows Tryz.prog g lb p w) :
    Calls Tryz.prog 143 #[.string s, .func (.func g) #[] lb] w fun e w' => e = .returned (.bool (decide (0 <= Lib.idxFunc p true s))) /\ Below w.heap.size w w' := Any.strings_ContainsFunc_grows Tryz.laysGw17 g lb eg p s w hp
def Tryz.laysNm215_ren : Go.Shelf.Ren := ⟨fun | 15 => 128 | n => n, fun | 22 => 38 | 3 => 3 | 4 => 4 | n => n, fun | n => n⟩
theorem Tryz.laysNm215 : Go.Proofs.Lays2.n15 Tryz.prog Tryz.laysNm215_ren := {
  mixed := by kernel_rfl
  f15 := Tryz.func128.trans (congrArg some (by kernel_rfl))
  t3 := Tryz.underlying3
  a3 := Tryz.isAgg3
  z3 := Tryz.sizeOf3
  v3 := Tryz.zeroValue3
  t4 := Tryz.underlying4
  a4 := Tryz.isAgg4
  z4 := Tryz.sizeOf4
  v4 := Tryz.zeroValue4
  t22 := Tryz.underlying38
  a22 := Tryz.isAgg38
  z22 := Tryz.sizeOf38
  v22 := Tryz.zeroValue38
  i3 := by kernel_rfl }
open Go.RowKit Go.Lib in
theorem Tryz.slices_Clone_int (b off n c : Nat) (zs : List Int) (w : World) (hz : n <= zs.length) (hbig : n * 8 <= 140737488355328) (hc : ∀ j, j < zs.length -> w.cell? ⟨b, off + j, none⟩ = some (.int .i64 (zs.getD j 0))) :
    Calls Tryz.prog 128 #[.slice (some ⟨b, off, none⟩) n c] w fun e w' => ∃ v', e = .returned v' /\ w'.ownsRow w.heap.size 3 1 v' n ((zs.take n).map (Value.int .i64)) /\ v' ≠ .slice none 0 0 /\ Below w.heap.size w w' := Any.slices_Clone_int Tryz.laysNm215 b off n c zs w hz hbig hc
open Go.RowKit Go.Lib in
theorem Tryz.slices_Clone_int_nil (n c : Nat) (w : World) :
    Calls Tryz.prog 128 #[.slice none n c] w fun e w' => e = .returned (.slice none 0 0) /\ w' = w := Any.slices_Clone_int_nil Tryz.laysNm215 n c w
def Tryz.laysNm216_ren : Go.Shelf.Ren := ⟨fun | 16 => 72 | n => n, fun | 24 => 37 | 9 => 9 | 4 => 4 | n => n, fun | n => n⟩
theorem Tryz.laysNm216 : Go.Proofs.Lays2.n16 Tryz.prog Tryz.laysNm216_ren := {
  mixed := by kernel_rfl
  f16 := Tryz.func72.trans (congrArg some (by kernel_rfl))
  t4 := Tryz.underlying4
  a4 := Tryz.isAgg4
  z4 := Tryz.sizeOf4
  v4 := Tryz.zeroValue4
  t9 := Tryz.underlying9
  a9 := Tryz.isAgg9
  z9 := Tryz.sizeOf9
  v9 := Tryz.zeroValue9
  t24 := Tryz.underlying37
  a24 := Tryz.isAgg37
  z24 := Tryz.sizeOf37
  v24 := Tryz.zeroValue37
  i9 := by kernel_rfl }
open Go.RowKit Go.Lib in
theorem Tryz.slices_Clone_string (b off n c : Nat) (zs : List ByteArray) (w : World) (hz : n <= zs.length) (hbig : n * 16 <= 140737488355328) (hc : ∀ j, j < zs.length -> w.cell? ⟨b, off + j, none⟩ = some (.string (zs.getD j ByteArray.empty))) :
    Calls Tryz.prog 72 #[.slice (some ⟨b, off, none⟩) n c] w fun e w' => ∃ v', e = .returned v' /\ w'.ownsRow w.heap.size 9 1 v' n ((zs.take n).map (Value.string)) /\ v' ≠ .slice none 0 0 /\ Below w.heap.size w w' := Any.slices_Clone_string Tryz.laysNm216 b off n c zs w hz hbig hc
open Go.RowKit Go.Lib in
theorem Tryz.slices_Clone_string_nil (n c : Nat) (w : World) :
    Calls Tryz.prog 72 #[.slice none n c] w fun e w' => e = .returned (.slice none 0 0) /\ w' = w := Any.slices_Clone_string_nil Tryz.laysNm216 n c w
open Go.RowKit Go.Lib in
theorem Tryz.slices_Clone_int_zero (a : Addr) (c : Nat) (w : World) :
    Calls Tryz.prog 128 #[.slice (some a) 0 c] w fun e w' => ∃ v', e = .returned v' /\ w'.ownsRow w.heap.size 3 1 v' 0 [] /\ v' ≠ .slice none 0 0 /\ Below w.heap.size w w' := Any.slices_Clone_int_zero Tryz.laysNm215 a c w
open Go.RowKit Go.Lib in
theorem Tryz.slices_Clone_string_zero (a : Addr) (c : Nat) (w : World) :
    Calls Tryz.prog 72 #[.slice (some a) 0 c] w fun e w' => ∃ v', e = .returned v' /\ w'.ownsRow w.heap.size 9 1 v' 0 [] /\ v' ≠ .slice none 0 0 /\ Below w.heap.size w w' := Any.slices_Clone_string_zero Tryz.laysNm216 a c w
def Tryz.lays194_ren : Go.Shelf.Ren := ⟨fun | 194 => 119 | n => n, fun | 31 => 37 | 9 => 9 | 3 => 3 | 4 => 4 | 0 => 0 | n => n, fun | n => n⟩
theorem Tryz.lays194 : Go.Proofs.Lays.n194 Tryz.prog Tryz.lays194_ren := {
  mixed := by kernel_rfl
  f194 := Tryz.func119.trans (congrArg some (by kernel_rfl))
  t0 := Tryz.underlying0
  a0 := Tryz.isAgg0
  z0 := Tryz.sizeOf0
  v0 := Tryz.zeroValue0
  t3 := Tryz.underlying3
  a3 := Tryz.isAgg3
  z3 := Tryz.sizeOf3
  v3 := Tryz.zeroValue3
  t4 := Tryz.underlying4
  a4 := Tryz.isAgg4
  z4 := Tryz.sizeOf4
  v4 := Tryz.zeroValue4
  t9 := Tryz.underlying9
  a9 := Tryz.isAgg9
  z9 := Tryz.sizeOf9
  v9 := Tryz.zeroValue9
  t31 := Tryz.underlying37
  a31 := Tryz.isAgg37
  z31 := Tryz.sizeOf37
  v31 := Tryz.zeroValue37 }
open Go.RowKit Go.Lib Go.Sort in
theorem Tryz.slices_Compact_string (blk off cap : Nat) (zs : List (List UInt8)) (w : World) (hH : Holds encStr w blk off zs.toArray) (hsz : zs.length <= 9223372036854775807) (hcap : zs.length <= cap) :
    Calls Tryz.prog 119 #[.slice (some ⟨blk, off, none⟩) zs.length cap] w fun e w' => e = .returned (.slice (some ⟨blk, off, none⟩) (Lib.compact zs).length cap) /\ ∃ q, w' = putRow encStr (Sort.ahead w q) blk off (Lib.compact zs ++ List.replicate (zs.length - (Lib.compact zs).length) []).toArray := Any.slices_Compact_string Tryz.lays194 blk off cap zs w hH hsz hcap
open Go.RowKit Go.Lib Go.Sort in
theorem Tryz.slices_Compact_string_empty (a : Option Addr) (cap : Nat) (w : World) :
    Calls Tryz.prog 119 #[.slice a 0 cap] w fun e w' => e = .returned (.slice a 0 cap) /\ w' = w := Any.slices_Compact_string_empty Tryz.lays194 a cap w
open Go.RowKit Go.Sort in
theorem Tryz.slices_Sort_string_none (p : Option Addr) (cap : Nat) (w : World) :
    Calls Tryz.prog 66 #[.slice p 0 cap] w fun e w' => e = .returned (.tuple #[]) /\ w' = w := Any.slices_Sort_string_none Tryz.lays190 p cap w
def Tryz.growOp_ren : Go.Shelf.Ren := ⟨fun | 4 => 167 | n => n, fun | 22 => 93 | 25 => 46 | 3 => 3 | 4 => 4 | 9 => 9 | 20 => 20 | 0 => 0 | n => n, fun | n => n⟩
theorem Tryz.growOp : Go.Proofs.Lays8.n4 Tryz.prog Tryz.growOp_ren := {
  mixed := by kernel_rfl
  f4 := ⟨Tryz.f167.name, by decide, Tryz.func167.trans (congrArg some (by kernel_rfl))⟩
  t0 := Tryz.underlying0
  a0 := Tryz.isAgg0
  z0 := Tryz.sizeOf0
  v0 := Tryz.zeroValue0
  t3 := Tryz.underlying3
  a3 := Tryz.isAgg3
  z3 := Tryz.sizeOf3
  v3 := Tryz.zeroValue3
  t4 := Tryz.underlying4
  a4 := Tryz.isAgg4
  z4 := Tryz.sizeOf4
  v4 := Tryz.zeroValue4
  t9 := Tryz.underlying9
  a9 := Tryz.isAgg9
  z9 := Tryz.sizeOf9
  v9 := Tryz.zeroValue9
  t20 := Tryz.underlying20
  a20 := Tryz.isAgg20
  z20 := Tryz.sizeOf20
  v20 := Tryz.zeroValue20
  t22 := Tryz.underlying93
  a22 := Tryz.isAgg93
  z22 := Tryz.sizeOf93
  v22 := Tryz.zeroValue93 }
end Go.Proofs
end
section
namespace Go.VL
open Go.Proofs Go.RowKit
theorem join_c (l : List Str) (sep : Str) {c : Ck} (h1 : l.length <= 1099511627776) (h2 : (Lib.join l sep).length <= 140737488355328) : PCall Tryz.prog 151 [.isl (l.map strL) c, .str sep] (.str (Lib.join l sep)) := by
  refine PCall.wk (args := [.isl (l.map strL) .unk, .str sep]) ?_ (.isl (.same .nil)); refine pcall_of ⟨_, Tryz.func151, rfl, by kernel_rfl⟩ (fun w G vs hg hi hv => ?_) (PuL.mem (.cons (pu_sl pu_strL _) (.cons (.str _) .nil))); obtain ⟨ad, cap, hc, rfl, hcells⟩ := Vs.strsstr hi hv; by_cases h0 : l = []
  · subst h0; refine (Tryz.strings_Join_none ad cap ⟨sep.toArray⟩ w).mono ?_; rintro e w' ⟨rfl, rfl⟩; exact ⟨_, rfl, Below.refl _ _, fun G n => .str _⟩
  · obtain ⟨b, o, rfl, hb, hx⟩ := hcells h0
    have e1 : (l.map fun s => (⟨s.toArray⟩ : ByteArray)).map (·.data.toList) = l := by simp [Function.comp_def]
    have key := Tryz.strings_Join b o cap (l.map fun s => ⟨s.toArray⟩) ⟨sep.toArray⟩ w hx hb (by simp; omega) (by simp; exact hc) (by rw [e1]; exact h2); rw [e1, List.length_map] at key; refine key.mono ?_; rintro e w' ⟨rfl, hb'⟩; exact ⟨_, rfl, hb', fun G n => .str _⟩
theorem itoa_small_c (n : Int) (h : 0 <= n /\ n < 100) : PCall Tryz.prog 152 [.int .i64 n] (.str (Lib.decDigits n.toNat)) := by
  refine pcall_of ⟨_, Tryz.func152, rfl, by kernel_rfl⟩ (fun w G vs hg hi hv => ?_) (PuL.mem (.cons (.int _ _) .nil)); rw [Vs.int1 hv]; have e1 : n = ((n.toNat : Nat) : Int) := by omega
  have key := Tryz.strconv_Itoa_small n.toNat (by omega) w; rw [<- e1] at key; refine key.mono ?_; rintro e w' ⟨rfl, rfl⟩; exact ⟨_, rfl, Below.refl _ _, fun G n => .str _⟩
theorem index_one_c (s : Str) (c : UInt8) : PCall Tryz.prog 214 [.str s, .str [c]] (.int .i64 (Lib.indexByte s c)) := by
  refine pcall_of ⟨_, Tryz.func214, rfl, by kernel_rfl⟩ (fun w G vs hg hi hv => ?_) (PuL.mem (.cons (.str _) (.cons (.str _) .nil))); rw [Vs.str2 hv]; refine (Tryz.stringslite_Index_one ⟨s.toArray⟩ c w).mono ?_; rintro e w' ⟨rfl, rfl⟩; exact ⟨_, rfl, Below.refl _ _, fun G n => .int _ _⟩
end Go.VL
end
section
namespace Go.VL
open Go.Proofs Go.RowKit
def idx1 (s sep : Str) : Option Int := match sep with
  | [c] => some (Lib.indexByte s c)
  | _ => none
theorem idx1_c (s sep : Str) {r : Int} (h : idx1 s sep = some r) : PCall Tryz.prog 214 [.str s, .str sep] (.int .i64 r) := by
  match sep, h with
  | [c], h => cases h; exact index_one_c s c
def noFields (s : Str) : Option (List Str) := none
theorem noFields_c (s : Str) {r : List Str} (h : noFields s = some r) : PCall Tryz.prog 203 [.str s, .fn (.func 204) [] []] (.isl (r.map strL) .unk) := by cases h
end Go.VL
end
section
set_option maxRecDepth 8000
set_option maxHeartbeats 4000000
namespace Go.VL
open Go.Proofs
def g_Fields_b0 : Nat -> Str -> Int -> Int -> Int -> Int -> Option ((Int × Int))
  | 0, _, _, _, _, _ => none
  | k + 1, s_0, n_3, wasSpace_4, setBits_5, i_6 =>
    cond (decide (i_6 < (s_0.length : Int))) (if 0 <= i_6 then Option.bind (s_0[i_6.toNat]?) fun x3 => if 0 <= (x3.toNat : Int) /\ (x3.toNat : Int) < 256 then Option.bind (tab0[x3.toNat]?) fun x6 => g_Fields_b0 k s_0 (IntKind.wrap .i64 (n_3 + (IntKind.wrap .i64 ((BitVec.ofInt (IntKind.bits .i64) wasSpace_4 &&& BitVec.ofInt (IntKind.bits .i64) (IntKind.wrap .i64 ((BitVec.ofInt (IntKind.bits .i64) (if IntKind.signed .i64 = true then -1 else IntKind.max .i64) ^^^ BitVec.ofInt (IntKind.bits .i64) (IntKind.wrap .i64 x6)).toNat))).toNat)))) (IntKind.wrap .i64 x6) (IntKind.wrap .u8 ((BitVec.ofInt (IntKind.bits .u8) setBits_5 ||| BitVec.ofInt (IntKind.bits .u8) (x3.toNat : Int)).toNat)) (IntKind.wrap .i64 (i_6 + 1)) else none else none) (some ((n_3, setBits_5)))
def g_Fields_b0l : List Nat := [3, 4, 5, 6, 7, 8] ++ List.range' 13 23
theorem g_Fields_b0_W : ∀ (k : Nat) (s_0 : Str) (n_3 : Int) (wasSpace_4 : Int) (setBits_5 : Int) (i_6 : Int) (σ0 σ : Nat -> PV) (H : AH) (f0 : Fr g_Fields_b0l σ0 σ) (sl : σ 0 = (.str s_0) /\ σ 3 = (.int .i64 n_3) /\ σ 4 = (.int .i64 wasSpace_4) /\ σ 5 = (.int .u8 setBits_5) /\ σ 6 = (.int .i64 i_6)) (o : (Int × Int)) (h : g_Fields_b0 k s_0 n_3 wasSpace_4 setBits_5 i_6 = some o) (Q : Post) (q0 : ∀ (p : Int × Int) (σ' : Nat -> PV), o = p -> Fr g_Fields_b0l σ0 σ' -> (σ' 3 = (.int .i64 p.1) /\ σ' 5 = (.int .u8 p.2)) -> Q (.exit 0) σ' H) , W Tryz.prog (.loop ac180_b0) Q σ H := by
  intro k
  induction k with
  | zero => intro s_0 n_3 wasSpace_4 setBits_5 i_6 σ0 σ H f0 sl o h Q q0; simp only [g_Fields_b0, reduceCtorEq] at h
  | succ k ih =>
    intro s_0 n_3 wasSpace_4 setBits_5 i_6 σ0 σ H f0 sl o h Q q0; obtain ⟨s0, s3, s4, s5, s6⟩ := sl; unfold g_Fields_b0 at h; refine W_loopK (fun K hK => W_start ?_); unfold ac180_b0; rcases cond_E h with ⟨e1, h⟩ | ⟨e1, h⟩
    ·obtain ⟨e2, h⟩ := if_E h; obtain ⟨x3, e4, h⟩ := bind_E h; obtain ⟨e5, h⟩ := if_E h; obtain ⟨x6, e7, h⟩ := bind_E h; try refine go_ ?_
     refine hK _ _ ?_; exact ih s_0 (IntKind.wrap .i64 (n_3 + (IntKind.wrap .i64 ((BitVec.ofInt (IntKind.bits .i64) wasSpace_4 &&& BitVec.ofInt (IntKind.bits .i64) (IntKind.wrap .i64 ((BitVec.ofInt (IntKind.bits .i64) (if IntKind.signed .i64 = true then -1 else IntKind.max .i64) ^^^ BitVec.ofInt (IntKind.bits .i64) (IntKind.wrap .i64 x6)).toNat))).toNat)))) (IntKind.wrap .i64 x6) (IntKind.wrap .u8 ((BitVec.ofInt (IntKind.bits .u8) setBits_5 ||| BitVec.ofInt (IntKind.bits .u8) (x3.toNat : Int)).toNat)) (IntKind.wrap .i64 (i_6 + 1)) _ _ _ fr_ sl_ _ h _ q0
    ·obtain rfl := som_E h; try refine go_ ?_
     exact q0 _ _ rfl fr_ sl_
def g_Fields_b1 : Nat -> Str -> Int -> Option Int
  | 0, _, _ => none
  | k + 1, s_0, i_12 =>
    cond (decide (i_12 < (s_0.length : Int))) (if 0 <= i_12 then Option.bind (s_0[i_12.toNat]?) fun x30 => if 0 <= (x30.toNat : Int) /\ (x30.toNat : Int) < 256 then Option.bind (tab0[x30.toNat]?) fun x33 => cond (x33 != 0) (g_Fields_b1 k s_0 (IntKind.wrap .i64 (i_12 + 1))) (some (i_12)) else none else none) (some (i_12))
def g_Fields_b1l : List Nat := [12] ++ List.range' 42 14
theorem g_Fields_b1_W : ∀ (k : Nat) (s_0 : Str) (i_12 : Int) (σ0 σ : Nat -> PV) (H : AH) (f0 : Fr g_Fields_b1l σ0 σ) (sl : σ 0 = (.str s_0) /\ σ 12 = (.int .i64 i_12)) (o : Int) (h : g_Fields_b1 k s_0 i_12 = some o) (Q : Post) (q0 : ∀ (p : Int) (σ' : Nat -> PV), o = p -> Fr g_Fields_b1l σ0 σ' -> (σ' 12 = (.int .i64 p)) -> Q (.exit 2) σ' H) , W Tryz.prog (.loop ac180_b1) Q σ H := by
  intro k
  induction k with
  | zero => intro s_0 i_12 σ0 σ H f0 sl o h Q q0; simp only [g_Fields_b1, reduceCtorEq] at h
  | succ k ih =>
    intro s_0 i_12 σ0 σ H f0 sl o h Q q0; obtain ⟨s0, s12⟩ := sl; unfold g_Fields_b1 at h; refine W_loopK (fun K hK => W_start ?_); unfold ac180_b1; rcases cond_E h with ⟨e28, h⟩ | ⟨e28, h⟩
    ·obtain ⟨e29, h⟩ := if_E h; obtain ⟨x30, e31, h⟩ := bind_E h; obtain ⟨e32, h⟩ := if_E h; obtain ⟨x33, e34, h⟩ := bind_E h; rcases cond_E h with ⟨e35, h⟩ | ⟨e35, h⟩
     ·try refine go_ ?_
      refine hK _ _ ?_; exact ih s_0 (IntKind.wrap .i64 (i_12 + 1)) _ _ _ fr_ sl_ _ h _ q0
     ·obtain rfl := som_E h; try refine go_ ?_
      exact q0 _ _ rfl fr_ sl_
    ·obtain rfl := som_E h; try refine go_ ?_
     exact q0 _ _ rfl fr_ sl_
def g_Fields_b2 : Nat -> Str -> Int -> Option Int
  | 0, _, _ => none
  | k + 1, s_0, i_12 =>
    cond (decide (i_12 < (s_0.length : Int))) (if 0 <= i_12 then Option.bind (s_0[i_12.toNat]?) fun x73 => if 0 <= (x73.toNat : Int) /\ (x73.toNat : Int) < 256 then Option.bind (tab0[x73.toNat]?) fun x76 => cond (x76 != 0) (g_Fields_b2 k s_0 (IntKind.wrap .i64 (i_12 + 1))) (some (i_12)) else none else none) (some (i_12))
def g_Fields_b2l : List Nat := [12] ++ List.range' 80 14
theorem g_Fields_b2_W : ∀ (k : Nat) (s_0 : Str) (i_12 : Int) (σ0 σ : Nat -> PV) (H : AH) (f0 : Fr g_Fields_b2l σ0 σ) (sl : σ 0 = (.str s_0) /\ σ 12 = (.int .i64 i_12)) (o : Int) (h : g_Fields_b2 k s_0 i_12 = some o) (Q : Post) (q0 : ∀ (p : Int) (σ' : Nat -> PV), o = p -> Fr g_Fields_b2l σ0 σ' -> (σ' 12 = (.int .i64 p)) -> Q (.exit 6) σ' H) , W Tryz.prog (.loop ac180_b2) Q σ H := by
  intro k
  induction k with
  | zero => intro s_0 i_12 σ0 σ H f0 sl o h Q q0; simp only [g_Fields_b2, reduceCtorEq] at h
  | succ k ih =>
    intro s_0 i_12 σ0 σ H f0 sl o h Q q0; obtain ⟨s0, s12⟩ := sl; unfold g_Fields_b2 at h; refine W_loopK (fun K hK => W_start ?_); unfold ac180_b2; rcases cond_E h with ⟨e71, h⟩ | ⟨e71, h⟩
    ·obtain ⟨e72, h⟩ := if_E h; obtain ⟨x73, e74, h⟩ := bind_E h; obtain ⟨e75, h⟩ := if_E h; obtain ⟨x76, e77, h⟩ := bind_E h; rcases cond_E h with ⟨e78, h⟩ | ⟨e78, h⟩
     ·try refine go_ ?_
      refine hK _ _ ?_; exact ih s_0 (IntKind.wrap .i64 (i_12 + 1)) _ _ _ fr_ sl_ _ h _ q0
     ·obtain rfl := som_E h; try refine go_ ?_
      exact q0 _ _ rfl fr_ sl_
    ·obtain rfl := som_E h; try refine go_ ?_
     exact q0 _ _ rfl fr_ sl_
def g_Fields_b3 : Nat -> Str -> (List Str) -> Int -> Int -> Int -> Option (((List Str) × Int × Int))
  | 0, _, _, _, _, _ => none
  | k + 1, s_0, a_9, na_10, fieldStart_11, i_12 =>
    cond (decide (i_12 < (s_0.length : Int))) (if 0 <= i_12 then Option.bind (s_0[i_12.toNat]?) fun x48 => if 0 <= (x48.toNat : Int) /\ (x48.toNat : Int) < 256 then Option.bind (tab0[x48.toNat]?) fun x51 => cond (x51 == 0) (g_Fields_b3 k s_0 a_9 na_10 fieldStart_11 (IntKind.wrap .i64 (i_12 + 1))) (if 0 <= fieldStart_11 /\ fieldStart_11 <= i_12 /\ i_12.toNat <= s_0.length then if 0 <= na_10 then Option.bind (a_9[na_10.toNat]?) fun x56 => Option.bind (g_Fields_b2 k s_0 (IntKind.wrap .i64 (i_12 + 1))) (fun p81 => g_Fields_b3 k s_0 (a_9.set na_10.toNat ((s_0.take i_12.toNat).drop fieldStart_11.toNat)) (IntKind.wrap .i64 (na_10 + 1)) p81 p81) else none else none) else none else none) (some ((a_9, na_10, fieldStart_11)))
def g_Fields_b3l : List Nat := [10, 11, 12] ++ List.range' 57 38
theorem g_Fields_b3_W : ∀ (k : Nat) (v_a_9 : PV) (ids_a_9 : List Nat) (M : List Nat) (s_0 : Str) (a_9 : List Str) (na_10 : Int) (fieldStart_11 : Int) (i_12 : Int) (σ0 σ : Nat -> PV) (H0 H : AH) (f0 : Fr g_Fields_b3l σ0 σ) (hf0 : HF M H0 H) (sl : σ 0 = (.str s_0) /\ σ 9 = v_a_9 /\ σ 10 = (.int .i64 na_10) /\ σ 11 = (.int .i64 fieldStart_11) /\ σ 12 = (.int .i64 i_12)) (r_a_9 : RowN H strL 1 a_9 v_a_9 ids_a_9) (nw_a_9 : Nw H0 M ids_a_9) (o : ((List Str) × Int × Int)) (h : g_Fields_b3 k s_0 a_9 na_10 fieldStart_11 i_12 = some o) (Q : Post) (q0 : ∀ (p : (List Str) × Int × Int) (v0 : PV) (ids0 : List Nat) (σ' : Nat -> PV) (H' : AH), o = p -> Fr g_Fields_b3l σ0 σ' -> HF M H0 H' -> (σ' 9 = v0 /\ σ' 10 = (.int .i64 p.2.1) /\ σ' 11 = (.int .i64 p.2.2)) -> RowN H' strL 1 p.1 v0 ids0 -> Nw H0 M ids0 -> Q (.exit 4) σ' H') , W Tryz.prog (.loop ac180_b3) Q σ H := by
  intro k
  induction k with
  | zero => intro v_a_9 ids_a_9 M s_0 a_9 na_10 fieldStart_11 i_12 σ0 σ H0 H f0 hf0 sl r_a_9 nw_a_9 o h Q q0; simp only [g_Fields_b3, reduceCtorEq] at h
  | succ k ih =>
    intro v_a_9 ids_a_9 M s_0 a_9 na_10 fieldStart_11 i_12 σ0 σ H0 H f0 hf0 sl r_a_9 nw_a_9 o h Q q0; obtain ⟨s0, s9, s10, s11, s12⟩ := sl; have hle0 := hf0.1; unfold g_Fields_b3 at h; refine W_loopK (fun K hK => W_start ?_); unfold ac180_b3; rcases cond_E h with ⟨e46, h⟩ | ⟨e46, h⟩
    ·obtain ⟨e47, h⟩ := if_E h; obtain ⟨x48, e49, h⟩ := bind_E h; obtain ⟨e50, h⟩ := if_E h; obtain ⟨x51, e52, h⟩ := bind_E h; rcases cond_E h with ⟨e53, h⟩ | ⟨e53, h⟩
     ·try refine go_ ?_
      refine hK _ _ ?_; exact ih v_a_9 ids_a_9 M s_0 a_9 na_10 fieldStart_11 (IntKind.wrap .i64 (i_12 + 1)) _ _ _ _ fr_ (by repeat (first | exact hf0 | refine HF.new ?_ | refine HF.tokd ?_ | refine HF.used ?_ | refine HF.put (by first | (right; omega) | (left; simp only [List.mem_cons, true_or, or_true])) ?_)) sl_ (by repeat (first | exact r_a_9 | apply RowN.new | refine RowN.put ?_ (fun hm => by have := RowN.lt r_a_9 _ hm; omega))) nw_a_9 _ h _ q0
     ·obtain ⟨e54, h⟩ := if_E h; obtain ⟨e55, h⟩ := if_E h; obtain ⟨x56, e57, h⟩ := bind_E h; obtain ⟨w58, w59, hidw58, hil, w60, hC, hL, hD, hI⟩ := RowN.content r_a_9 e57; have w61 := ne_next hil; have w62 := ne_add hil; have w63 : idxPV 1 v_a_9 (.int .i64 na_10) = some (.ref w58 (na_10.toNat)) := by simpa using hI .i64 na_10 (by first | omega | decide) (by first | rfl | omega)
      have w58c0 : w59[na_10.toNat]? = some (.str x56) := by simpa using hC 0 _ rfl
      clear hC hL hD hI; try refine go_ ?_
      refine WO_rowset (f := strL) (id := w58) (o := na_10.toNat) (i := na_10.toNat) (j := 0) (a := x56) (y := ((s_0.take i_12.toNat).drop fieldStart_11.toNat)) (vs := [(.str ((s_0.take i_12.toNat).drop fieldStart_11.toNat))]) sl_ hidw58 (by omega) (by repeat (first | exact r_a_9 | apply RowN.new | refine RowN.put ?_ (fun hm => by have := RowN.lt r_a_9 _ hm; omega))) e57 sl_ rfl rfl (by first | decide | (simp only [List.length_cons, List.length_nil]; omega)) rfl (fun H66 r67 hf69 ok70 => ?_); have le := hf69.1; try simp only [AH.new_next, AH.put_next, AH.tok_next, AH.use_next] at le
      try refine go_ ?_
      obtain ⟨o79, h80, h⟩ := bind_E h; refine g_Fields_b2_W k s_0 (IntKind.wrap .i64 (i_12 + 1)) _ _ _ (Fr.refl _ _) sl_ _ h80 _ ?_
      ·rintro p81 σ' eo fr82 s85; rw [eo] at h; have s86 : σ' 0 = (.str s_0) := (fr82 0 (by decide)).trans sl_; have s87 : σ' 9 = v_a_9 := (fr82 9 (by decide)).trans sl_; have s88 : σ' 10 = (.int .i64 (IntKind.wrap .i64 (na_10 + 1))) := (fr82 10 (by decide)).trans sl_; try refine go_ ?_
       refine hK _ _ ?_; exact ih v_a_9 ids_a_9 M s_0 (a_9.set na_10.toNat ((s_0.take i_12.toNat).drop fieldStart_11.toNat)) (IntKind.wrap .i64 (na_10 + 1)) p81 p81 _ _ _ _ (by repeat (first | exact f0 | refine Fr.upd (by decide) ?_ | refine Fr.via fr82 (by decide) ?_)) (by repeat (first | exact hf0 | refine HF.new ?_ | refine HF.tokd ?_ | refine HF.used ?_ | refine HF.put (by first | (right; omega) | (left; simp only [List.mem_cons, true_or, or_true])) ?_ | refine HF.via hf69 nw_a_9 ?_)) sl_ (by repeat (first | exact r67 | apply RowN.new | refine RowN.put ?_ (fun hm => by have := RowN.lt r67 _ hm; omega))) nw_a_9 _ h _ q0
    ·obtain rfl := som_E h; try refine go_ ?_
     exact q0 _ v_a_9 ids_a_9 _ _ rfl fr_ (by repeat (first | exact hf0 | refine HF.new ?_ | refine HF.tokd ?_ | refine HF.used ?_ | refine HF.put (by first | (right; omega) | (left; simp only [List.mem_cons, true_or, or_true])) ?_)) sl_ (by repeat (first | exact r_a_9 | apply RowN.new | refine RowN.put ?_ (fun hm => by have := RowN.lt r_a_9 _ hm; omega))) nw_a_9
def g_Fields (k : Nat) (s_0 : Str) : Option (List Str) :=
  Option.bind (g_Fields_b0 k s_0 0 1 0 0) (fun p10 => cond (decide (p10.2 >= 128)) (Option.bind (noFields s_0) fun p19 => some p19) (if 0 <= p10.1 /\ p10.1 <= 1099511627776 /\ 16 * p10.1 <= 1099511627776 then Option.bind (g_Fields_b1 k s_0 0) (fun p38 => Option.bind (g_Fields_b3 k s_0 (List.replicate p10.1.toNat []) 0 p38 p38) (fun p91 => cond (decide (p91.2.2 < (s_0.length : Int))) (if 0 <= p91.2.2 /\ p91.2.2.toNat <= s_0.length then if 0 <= p91.2.1 then Option.bind (p91.1[p91.2.1.toNat]?) fun x106 => some (p91.1.set p91.2.1.toNat (s_0.drop p91.2.2.toNat)) else none else none) (some p91.1))) else none))
theorem g_Fields_c {k : Nat} {s_0 : Str} {r : List Str} (h : g_Fields k s_0 = some r) : PCall Tryz.prog 180 [(.str s_0)] (.isl (r.map strL) .unk) := by
  refine PCall.of_empty (PuL.mem (.cons (.str _) .nil)) (MCall_of_W ok180 (by simp) (W_start ?_)) (pu_sl pu_strL _); unfold g_Fields at h; unfold ac180; try refine go_ ?_
  obtain ⟨o8, h9, h⟩ := bind_E h; refine g_Fields_b0_W k s_0 0 1 0 0 _ _ _ (Fr.refl _ _) sl_ _ h9 _ ?_
  ·rintro p10 σ' eo fr11 ⟨s14, s15⟩; rw [eo] at h; have s16 : σ' 0 = (.str s_0) := (fr11 0 (by decide)).trans sl_; rcases cond_E h with ⟨e17, h⟩ | ⟨e17, h⟩
   ·obtain ⟨p19, e18, h⟩ := bind_E h; try refine go_ ?_
    refine mcall_pure (noFields_c s_0 e18) ?_; obtain rfl := som_E h; try refine go_ ?_
    exact (fz_sl pu_strL p19 _)
   ·obtain ⟨e20, h⟩ := if_E h; try refine go_ ?_
    refine WO_mkrow (f := strL) (k := .i64) (n := p10.1) (k' := .i64) (c := p10.1) [] rfl sl_ sl_ (by omega) (by decide) (fun v21 ids22 H23 r24 nw25 hf26 ok27 => ?_); have le := hf26.1; try simp only [AH.new_next, AH.put_next, AH.tok_next, AH.use_next] at le
    try refine go_ ?_
    obtain ⟨o36, h37, h⟩ := bind_E h; refine g_Fields_b1_W k s_0 0 _ _ _ (Fr.refl _ _) sl_ _ h37 _ ?_
    ·rintro p38 σ' eo fr39 s42; rw [eo] at h; have s43 : σ' 0 = (.str s_0) := (fr39 0 (by decide)).trans sl_; have s44 : σ' 9 = v21 := (fr39 9 (by decide)).trans sl_; have s45 : σ' 10 = (.int .i64 0) := (fr39 10 (by decide)).trans sl_; try refine go_ ?_
     obtain ⟨o89, h90, h⟩ := bind_E h; refine g_Fields_b3_W k v21 ids22 (ids22 ++ []) s_0 (List.replicate p10.1.toNat []) 0 p38 p38 _ _ _ _ (Fr.refl _ _) (HF.refl _ _) sl_ (by repeat (first | exact r24 | apply RowN.new | refine RowN.put ?_ (fun hm => by have := RowN.lt r24 _ hm; omega))) (fun i hi => Or.inl (by simp only [List.mem_append, List.mem_cons, hi, true_or, or_true])) _ h90 _ ?_
     ·rintro p91 v95 ids96 σ' H94 eo fr92 hf93 ⟨s99, s100, s101⟩ r97 nw98; rw [eo] at h; have s102 : σ' 0 = (.str s_0) := (fr92 0 (by decide)).trans sl_; have le := hf93.1; try simp only [AH.new_next, AH.put_next, AH.tok_next, AH.use_next] at le
      rcases cond_E h with ⟨e103, h⟩ | ⟨e103, h⟩
      ·obtain ⟨e104, h⟩ := if_E h; obtain ⟨e105, h⟩ := if_E h; obtain ⟨x106, e107, h⟩ := bind_E h; obtain ⟨w108, w109, hidw108, hil, w110, hC, hL, hD, hI⟩ := RowN.content r97 e107; have w111 := ne_next hil; have w112 := ne_add hil; have w113 : idxPV 1 v95 (.int .i64 p91.2.1) = some (.ref w108 (p91.2.1.toNat)) := by simpa using hI .i64 p91.2.1 (by first | omega | decide) (by first | rfl | omega)
       have w108c0 : w109[p91.2.1.toNat]? = some (.str x106) := by simpa using hC 0 _ rfl
       clear hC hL hD hI; try refine go_ ?_
       refine WO_rowset (f := strL) (id := w108) (o := p91.2.1.toNat) (i := p91.2.1.toNat) (j := 0) (a := x106) (y := (s_0.drop p91.2.2.toNat)) (vs := [(.str (s_0.drop p91.2.2.toNat))]) sl_ hidw108 (by omega) (by repeat (first | exact r97 | apply RowN.new | refine RowN.put ?_ (fun hm => by have := RowN.lt r97 _ hm; omega))) e107 sl_ rfl rfl (by first | decide | (simp only [List.length_cons, List.length_nil]; omega)) rfl (fun H116 r117 hf119 ok120 => ?_); have le := hf119.1; try simp only [AH.new_next, AH.put_next, AH.tok_next, AH.use_next] at le
       obtain rfl := som_E h; try refine go_ ?_
       exact (RowN.fz pu_strL (by repeat (first | exact r117 | apply RowN.new | refine RowN.put ?_ (fun hm => by have := RowN.lt r117 _ hm; omega))))
      ·obtain rfl := som_E h; try refine go_ ?_
       exact (RowN.fz pu_strL (by repeat (first | exact r97 | apply RowN.new | refine RowN.put ?_ (fun hm => by have := RowN.lt r97 _ hm; omega))))
def t_reserved (k : Nat) : Option (List Str) :=
  Option.bind (g_Fields k ([65, 83, 83, 85, 77, 69, 32, 65, 83, 83, 85, 77, 80, 84, 73, 79, 78, 32, 65, 88, 73, 79, 77, 32, 66, 89, 32, 67, 65, 83, 69, 32, 67, 72, 79, 79, 83, 69, 32, 67, 79, 78, 83, 84, 65, 78, 84, 32, 67, 79, 78, 83, 84, 65, 78, 84, 83, 32, 68, 69, 70, 32, 68, 69, 70, 73, 78, 69, 32, 68, 69, 70, 83, 32, 68, 79, 77, 65, 73, 78, 32, 69, 76, 83, 69, 32, 69, 78, 65, 66, 76, 69, 68, 32, 69, 88, 67, 69, 80, 84, 32, 69, 88, 84, 69, 78, 68, 83, 32, 70, 65, 76, 83, 69, 32, 72, 65, 86, 69, 32, 72, 73, 68, 69, 32, 73, 70, 32, 73, 78, 32, 73, 78, 83, 84, 65, 78, 67, 69, 32, 76, 65, 77, 66, 68, 65, 32, 76, 69, 77, 77, 65, 32, 76, 69, 84, 32, 76, 79, 67, 65, 76, 32, 77, 79, 68, 85, 76, 69, 32, 78, 69, 87, 32, 79, 66, 86, 73, 79, 85, 83, 32, 79, 77, 73, 84, 84, 69, 68, 32, 79, 84, 72, 69, 82, 32, 80, 73, 67, 75, 32, 80, 82, 79, 79, 70, 32, 80, 82, 79, 80, 79, 83, 73, 84, 73, 79, 78, 32, 80, 82, 79, 86, 69, 32, 81, 69, 68, 32, 82, 69, 67, 85, 82, 83, 73, 86, 69, 32, 83, 85, 66, 83, 69, 84, 32, 83, 85, 70, 70, 73, 67, 69, 83, 32, 84, 65, 75, 69, 32, 84, 72, 69, 78, 32, 84, 72, 69, 79, 82, 69, 77, 32, 84, 82, 85, 69, 32, 85, 78, 67, 72, 65, 78, 71, 69, 68, 32, 85, 78, 73, 79, 78, 32, 85, 83, 69, 32, 86, 65, 82, 73, 65, 66, 76, 69, 32, 86, 65, 82, 73, 65, 66, 76, 69, 83, 32, 87, 73, 84, 72, 32, 87, 73, 84, 78, 69, 83, 83, 32, 66, 79, 79, 76, 69, 65, 78, 32, 83, 84, 82, 73, 78, 71] : Str)) fun p2 => some p2
theorem t_reserved_c {k : Nat} {r : List Str} (h : t_reserved k = some r) : PCall Tryz.prog 126 [] (.isl (r.map strL) .unk) := by
  refine PCall.of_empty (PuL.mem .nil) (MCall_of_W ok126 (by simp) (W_start ?_)) (pu_sl pu_strL _); unfold t_reserved at h; unfold ac126; obtain ⟨p2, e1, h⟩ := bind_E h; try refine gos_ ?_
  refine mcall_pure (g_Fields_c e1) ?_; obtain rfl := som_E h; try refine gos_ ?_
  exact (fz_sl pu_strL p2 _)
end Go.VL
end
section
namespace Go.VL
open Go.Proofs Go.RowKit
def resL : List Str := (t_reserved 800).getD []
theorem resL_some : t_reserved 800 = some resL := by
  have h : (t_reserved 800).isSome = true := by kernel_rfl
  rw [resL]; cases h1 : t_reserved 800 with
  | none => rw [h1] at h; cases h
  | some r => rfl
theorem resL_c : PCall Tryz.prog 126 [] (.isl (resL.map strL) .unk) := t_reserved_c resL_some
end Go.VL
end
section
set_option maxRecDepth 8000
set_option maxHeartbeats 4000000
namespace Go.VL
open Go.Proofs
def t_isName_p0 (k : Nat) (s_0 : Str) (t_10 : Bool) : Option Bool :=
  cond t_10 (some (true)) (Option.bind (g_HasPrefix_125 s_0 ([87, 70, 95] : Str)) fun p5 => cond p5 (some (true)) (Option.bind (g_HasPrefix_125 s_0 ([83, 70, 95] : Str)) fun p8 => cond p8 (some (true)) (Option.bind (g_Contains_string_string k resL s_0) fun p11 => some (p11))))
def t_isName_p0l : List Nat := List.range' 11 12
theorem t_isName_p0_W (k : Nat) : ∀ (s_0 : Str) (t_10 : Bool) (σ0 σ : Nat -> PV) (H : AH) (f0 : Fr t_isName_p0l σ0 σ) (sl : σ 0 = (.str s_0) /\ σ 10 = (.bool t_10)) (o : Bool) (h : t_isName_p0 k s_0 t_10 = some o) (Q : Post) (q0 : ∀ (p : Bool) (σ' : Nat -> PV), o = p -> Fr t_isName_p0l σ0 σ' -> (σ' 22 = (.bool p)) -> Q .normal σ' H) , WOps Tryz.prog ac77_p0 (Q .normal) σ H := by
  intro s_0 t_10 σ0 σ H f0 sl o h Q q0; obtain ⟨s0, s10⟩ := sl; unfold t_isName_p0 at h; refine WO_start ?_; unfold ac77_p0; rcases cond_E h with ⟨e3, h⟩ | ⟨e3, h⟩
  ·obtain rfl := som_E h; try refine gos_ ?_
   exact q0 _ _ rfl fr_ sls_
  ·obtain ⟨p5, e4, h⟩ := bind_E h; try refine gos_ ?_
   refine mcall_pure (g_HasPrefix_125_c e4) ?_; rcases cond_E h with ⟨e6, h⟩ | ⟨e6, h⟩
   ·obtain rfl := som_E h; try refine gos_ ?_
    exact q0 _ _ rfl fr_ sls_
   ·obtain ⟨p8, e7, h⟩ := bind_E h; try refine gos_ ?_
    refine mcall_pure (g_HasPrefix_125_c e7) ?_; rcases cond_E h with ⟨e9, h⟩ | ⟨e9, h⟩
    ·obtain rfl := som_E h; try refine gos_ ?_
     exact q0 _ _ rfl fr_ sls_
    ·try refine gos_ ?_
     refine mcall_pure (resL_c ) ?_; obtain ⟨p11, e10, h⟩ := bind_E h; try refine gos_ ?_
     refine mcall_pure (g_Contains_string_string_c e10) ?_; obtain rfl := som_E h; try refine gos_ ?_
     exact q0 _ _ rfl fr_ sls_
def t_isName_p1 (c_5 : Int) (t_34 : Bool) : Option Bool :=
  cond t_34 (some (true)) (Option.bind (t_spans (IntKind.wrap .i64 c_5) 65 90) fun p29 => some (p29))
theorem t_isName_p1_W : ∀ (c_5 : Int) (t_34 : Bool) (σ0 σ : Nat -> PV) (H : AH) (f0 : Fr [35, 36, 37, 38] σ0 σ) (sl : σ 5 = (.int .u8 c_5) /\ σ 34 = (.bool t_34)) (o : Bool) (h : t_isName_p1 c_5 t_34 = some o) (Q : Post) (q0 : ∀ (p : Bool) (σ' : Nat -> PV), o = p -> Fr [35, 36, 37, 38] σ0 σ' -> (σ' 38 = (.bool p)) -> Q .normal σ' H) , WOps Tryz.prog ac77_p1 (Q .normal) σ H := by
  intro c_5 t_34 σ0 σ H f0 sl o h Q q0; obtain ⟨s5, s34⟩ := sl; unfold t_isName_p1 at h; refine WO_start ?_; unfold ac77_p1; rcases cond_E h with ⟨e27, h⟩ | ⟨e27, h⟩
  ·obtain rfl := som_E h; try refine gos_ ?_
   exact q0 _ _ rfl fr_ sls_
  ·obtain ⟨p29, e28, h⟩ := bind_E h; try refine gos_ ?_
   refine mcall_pure (t_spans_c e28) ?_; obtain rfl := som_E h; try refine gos_ ?_
   exact q0 _ _ rfl fr_ sls_
def t_isName_b0 : Nat -> Int -> (List Int) -> Int -> Int -> Option (Int ⊕ Bool)
  | 0, _, _, _, _ => none
  | k + 1, letters_3, t_24, t_25, t_26 =>
    cond (decide (t_26 < t_25)) (if 0 <= t_26 then Option.bind (t_24[t_26.toNat]?) fun x23 => Option.bind (t_spans (IntKind.wrap .i64 x23) 97 122) fun p26 => Option.bind (t_isName_p1 x23 p26) (fun p32 => cond p32 (t_isName_b0 k (IntKind.wrap .i64 (letters_3 + 1)) t_24 t_25 (IntKind.wrap .i64 (t_26 + 1))) (Option.bind (t_spans (IntKind.wrap .i64 x23) 48 57) fun p44 => cond p44 (t_isName_b0 k letters_3 t_24 t_25 (IntKind.wrap .i64 (t_26 + 1))) (cond (x23 != 95) (some (.inr (false))) (t_isName_b0 k letters_3 t_24 t_25 (IntKind.wrap .i64 (t_26 + 1)))))) else none) (some (.inl letters_3))
def t_isName_b0l : List Nat := [2, 3, 5] ++ List.range' 26 25
theorem t_isName_b0_W : ∀ (k : Nat) (letters_3 : Int) (t_24 : List Int) (t_25 : Int) (t_26 : Int) (σ0 σ : Nat -> PV) (H : AH) (f0 : Fr t_isName_b0l σ0 σ) (sl : σ 3 = (.int .i64 letters_3) /\ σ 24 = (.isl (t_24.map u8L) .unk) /\ σ 25 = (.int .i64 t_25) /\ σ 26 = (.int .i64 t_26)) (o : Int ⊕ Bool) (h : t_isName_b0 k letters_3 t_24 t_25 t_26 = some o) (Q : Post) (q0 : ∀ (p : Int) (σ' : Nat -> PV), o = .inl p -> Fr t_isName_b0l σ0 σ' -> (σ' 3 = (.int .i64 p)) -> Q (.exit 0) σ' H) (q1 : ∀ (p : Bool) (σ' : Nat -> PV), o = .inr (p) -> Fr t_isName_b0l σ0 σ' -> (σ' 2 = (.bool p)) -> Q .ret σ' H) , W Tryz.prog (.loop ac77_b0) Q σ H := by
  intro k
  induction k with
  | zero => intro letters_3 t_24 t_25 t_26 σ0 σ H f0 sl o h Q q0 q1; simp only [t_isName_b0, reduceCtorEq] at h
  | succ k ih =>
    intro letters_3 t_24 t_25 t_26 σ0 σ H f0 sl o h Q q0 q1; obtain ⟨s3, s24, s25, s26⟩ := sl; unfold t_isName_b0 at h; refine W_loopK (fun K hK => W_start ?_); unfold ac77_b0; rcases cond_E h with ⟨e21, h⟩ | ⟨e21, h⟩
    ·obtain ⟨e22, h⟩ := if_E h; obtain ⟨x23, e24, h⟩ := bind_E h; obtain ⟨p26, e25, h⟩ := bind_E h; try refine gos_ ?_
     refine mcall_pure (t_spans_c e25) ?_; try refine gos_ ?_
     obtain ⟨o30, h31, h⟩ := bind_E h; refine t_isName_p1_W x23 p26 _ _ _ (Fr.refl _ _) sls_ _ h31 _ ?_
     ·rintro p32 σ' eo fr33 s36; rw [eo] at h; have s37 : σ' 3 = (.int .i64 letters_3) := (fr33 3 (by decide)).trans sls_; have s38 : σ' 5 = (.int .u8 x23) := (fr33 5 (by decide)).trans sls_; have s39 : σ' 24 = (.isl (t_24.map u8L) .unk) := (fr33 24 (by decide)).trans sls_; have s40 : σ' 25 = (.int .i64 t_25) := (fr33 25 (by decide)).trans sls_; have s41 : σ' 26 = (.int .i64 t_26) := (fr33 26 (by decide)).trans sls_; rcases cond_E h with ⟨e42, h⟩ | ⟨e42, h⟩
      ·try refine gos_ ?_
       refine hK _ _ ?_; exact ih (IntKind.wrap .i64 (letters_3 + 1)) t_24 t_25 (IntKind.wrap .i64 (t_26 + 1)) _ _ _ (by repeat (first | exact f0 | refine Fr.upd (by decide) ?_ | refine Fr.via fr33 (by decide) ?_)) sls_ _ h _ q0 q1
      ·obtain ⟨p44, e43, h⟩ := bind_E h; try refine gos_ ?_
       refine mcall_pure (t_spans_c e43) ?_; rcases cond_E h with ⟨e45, h⟩ | ⟨e45, h⟩
       ·try refine gos_ ?_
        refine hK _ _ ?_; exact ih letters_3 t_24 t_25 (IntKind.wrap .i64 (t_26 + 1)) _ _ _ (by repeat (first | exact f0 | refine Fr.upd (by decide) ?_ | refine Fr.via fr33 (by decide) ?_)) sls_ _ h _ q0 q1
       ·rcases cond_E h with ⟨e46, h⟩ | ⟨e46, h⟩
        ·obtain rfl := som_E h; try refine gos_ ?_
         exact q1 _ _ rfl (by repeat (first | exact f0 | refine Fr.upd (by decide) ?_ | refine Fr.via fr33 (by decide) ?_)) sls_
        ·try refine gos_ ?_
         refine hK _ _ ?_; exact ih letters_3 t_24 t_25 (IntKind.wrap .i64 (t_26 + 1)) _ _ _ (by repeat (first | exact f0 | refine Fr.upd (by decide) ?_ | refine Fr.via fr33 (by decide) ?_)) sls_ _ h _ q0 q1
    ·obtain rfl := som_E h; try refine gos_ ?_
     exact q0 _ _ rfl fr_ sls_
def t_isName (k : Nat) (s_0 : Str) : Option Bool :=
  Option.bind (t_spans (s_0.length : Int) 1 24) fun p2 => Option.bind (t_isName_p0 k s_0 (!p2)) (fun p14 => cond p14 (some false) (Option.bind (t_isName_b0 k 0 (bytesI s_0) ((bytesI s_0).length : Int) 0) (fun o => Sum.elim (fun p49 => some (decide (p49 > 0))) (fun p54 => some p54) o)))
theorem t_isName_c {k : Nat} {s_0 : Str} {r : Bool} (h : t_isName k s_0 = some r) : PCall Tryz.prog 77 [(.str s_0)] (.bool r) := by
  refine PCall.of_empty (PuL.mem (.cons (.str _) .nil)) (MCall_of_W ok77 (by simp) (W_start ?_)) (.bool _); unfold t_isName at h; unfold ac77; obtain ⟨p2, e1, h⟩ := bind_E h; try refine gos_ ?_
  refine mcall_pure (t_spans_c e1) ?_; try refine gos_ ?_
  obtain ⟨o12, h13, h⟩ := bind_E h; refine t_isName_p0_W k s_0 (!p2) _ _ _ (Fr.refl _ _) sls_ _ h13 _ ?_
  ·rintro p14 σ' eo fr15 s18; rw [eo] at h; have s19 : σ' 0 = (.str s_0) := (fr15 0 (by decide)).trans sls_; rcases cond_E h with ⟨e20, h⟩ | ⟨e20, h⟩
   ·obtain rfl := som_E h; try refine gos_ ?_
    exact (.pure _ (.bool _))
   ·try refine gos_ ?_
    obtain ⟨o47, h48, h⟩ := bind_E h; refine t_isName_b0_W k 0 (bytesI s_0) ((bytesI s_0).length : Int) 0 _ _ _ (Fr.refl _ _) sls_ _ h48 _ ?_ ?_
    ·rintro p49 σ' eo fr50 s53; subst eo; rw [sum_L] at h; obtain rfl := som_E h; try refine gos_ ?_
     exact (.pure _ (.bool _))
    ·rintro p54 σ' eo fr55 s58; subst eo; rw [sum_R] at h; obtain rfl := som_E h; try refine gos_ ?_
     exact (.pure _ (.bool _))
def t_isCalled (k : Nat) (s_0 : Str) : Option Bool :=
  cond (decide ((s_0.length : Int) > 49)) (some false) (Option.bind (idx1 s_0 ([33] : Str)) fun p5 => cond (decide (p5 >= 0)) (if 0 <= p5 /\ p5.toNat <= s_0.length then if 0 <= (IntKind.wrap .i64 (p5 + 1)) /\ (IntKind.wrap .i64 (p5 + 1)).toNat <= s_0.length then Option.bind (t_isName k (s_0.take p5.toNat)) fun p10 => cond p10 (Option.bind (t_isName k (s_0.drop (IntKind.wrap .i64 (p5 + 1)).toNat)) fun p13 => some p13) (some false) else none else none) (Option.bind (t_isName k s_0) fun p15 => cond p15 (some true) (some false)))
theorem t_isCalled_c {k : Nat} {s_0 : Str} {r : Bool} (h : t_isCalled k s_0 = some r) : PCall Tryz.prog 146 [(.str s_0)] (.bool r) := by
  refine PCall.of_empty (PuL.mem (.cons (.str _) .nil)) (MCall_of_W ok146 (by simp) (W_start ?_)) (.bool _); unfold t_isCalled at h; unfold ac146; rcases cond_E h with ⟨e1, h⟩ | ⟨e1, h⟩
  ·obtain rfl := som_E h; try refine gos_ ?_
   exact (.pure _ (.bool _))
  ·try refine gos_ ?_
   refine MCall_of_W ok187 (by simp) (W_start ?_); unfold ac187; try refine gos_ ?_
   refine MCall_of_W ok207 (by simp) (W_start ?_); unfold ac207; obtain ⟨p5, e4, h⟩ := bind_E h; try refine gos_ ?_
   refine mcall_pure (idx1_c s_0 ([33] : Str) e4) ?_; rcases cond_E h with ⟨e6, h⟩ | ⟨e6, h⟩
   ·try refine gos_ ?_
    refine WS_parS ?_; obtain ⟨e7, h⟩ := if_E h; obtain ⟨e8, h⟩ := if_E h; obtain ⟨p10, e9, h⟩ := bind_E h; try refine gos_ ?_
    refine mcall_pure (t_isName_c e9) ?_; rcases cond_E h with ⟨e11, h⟩ | ⟨e11, h⟩
    ·obtain ⟨p13, e12, h⟩ := bind_E h; try refine gos_ ?_
     refine mcall_pure (t_isName_c e12) ?_; obtain rfl := som_E h; try refine gos_ ?_
     exact (.pure _ (.bool _))
    ·obtain rfl := som_E h; try refine gos_ ?_
     exact (.pure _ (.bool _))
   ·obtain ⟨p15, e14, h⟩ := bind_E h; try refine gos_ ?_
    refine mcall_pure (t_isName_c e14) ?_; rcases cond_E h with ⟨e16, h⟩ | ⟨e16, h⟩
    ·obtain rfl := som_E h; try refine gos_ ?_
     exact (.pure _ (.bool _))
    ·obtain rfl := som_E h; try refine gos_ ?_
     exact (.pure _ (.bool _))
end Go.VL
end
section
namespace Go.VL
open Go.Proofs Go.RowKit
theorem Vs.strfn {G : Gh} {n : Nat} {s : List UInt8} {g : FuncId} {vs : Array Value} (h : Vs G n [.str s, .fn (.func g) [] []] vs) : vs = #[.string ⟨s.toArray⟩, .func (.func g) #[] #[]] := by
  obtain ⟨h1, h2⟩ := h
  match vs, h1, h2 with
  | ⟨[v, u]⟩, _, h2 =>
    have e1 := h2 0 (.str s) v rfl rfl; have e2 := h2 1 (.fn (.func g) [] []) u rfl rfl; cases e1; cases e2 with
    | fn g cs ds vs us h1 _ h3 _ =>
      have a1 : vs = #[] := Array.size_eq_zero_iff.1 h1; have a2 : us = #[] := Array.size_eq_zero_iff.1 h3; rw [a1, a2]
theorem predGrows {g : FuncId} {p : Nat -> Bool} (hp : ∀ x : Nat, x <= 1114111 -> PCall Tryz.prog g [.int .i32 x] (.bool (p x))) {w : World} (hg : ∀ a x, Glob.gc a = some x -> w.cell? a = some x) : PredGrows Tryz.prog g #[] p w := by
  intro W x hx hb; have hM : MCall Tryz.prog g [.int .i32 x] AH.empty fun v _ => v = .bool (p x) := MCall.mono (hp x hx AH.empty) fun v H' q => q.1; refine (MCall.top hM (fun a y e => (World.cell?_of_block (hb.block _ (World.block_lt_of_cell? w a (hg a y e)))).trans (hg a y e)) (vs := #[encR x] ++ #[]) ?_); exact ⟨rfl, fun j c y e e' => by
    match j, e, e' with
    | 0, e, e' => cases e; cases e'; exact .int _ _⟩
theorem containsFunc_c {g : FuncId} (p : Nat -> Bool) (he : ∀ args w, (callFunc g args).run Tryz.prog w = .ok (.enter g args) w) (hp : ∀ x : Nat, x <= 1114111 -> PCall Tryz.prog g [.int .i32 x] (.bool (p x))) (s : Str) :
    PCall Tryz.prog 143 [.str s, .fn (.func g) [] []] (.bool (decide (0 <= Lib.idxFunc p true ⟨s.toArray⟩))) := by
  refine pcall_of ⟨_, Tryz.func143, rfl, by kernel_rfl⟩ (fun w G vs hg hi hv => ?_) (PuL.mem (.cons (.str _) (.cons (.fn _ _ _ (PuL.mem .nil) (PuL.mem .nil)) .nil))); rw [Vs.strfn hv]; refine (Tryz.strings_ContainsFunc_grows g #[] he p ⟨s.toArray⟩ w (predGrows hp hg)).mono ?_; rintro e w' ⟨rfl, hb⟩; exact ⟨_, rfl, hb, fun G n => .bool _⟩
def mul64 (x y : Int) : Int × Int := (((x.toNat * y.toNat / 18446744073709551616 : Nat) : Int), ((x.toNat * y.toNat % 18446744073709551616 : Nat) : Int))
theorem Vs.two64 {G : Gh} {n : Nat} {x y : Int} {k k' : IntKind} {vs : Array Value} (h : Vs G n [.int k x, .int k' y] vs) : vs = #[.int k x, .int k' y] := by
  obtain ⟨h1, h2⟩ := h
  match vs, h1, h2 with
  | ⟨[v, u]⟩, _, h2 =>
    have e1 := h2 0 (.int k x) v rfl rfl; have e2 := h2 1 (.int k' y) u rfl rfl; cases e1; cases e2; rfl
theorem mul64_c (x y : Int) (h : (0 <= x /\ x < 18446744073709551616) /\ (0 <= y /\ y < 18446744073709551616)) : PCall Tryz.prog 189 [.int .u64 x, .int .u64 y] (.tup [.int .u64 (mul64 x y).1, .int .u64 (mul64 x y).2]) := by
  refine pcall_of ⟨_, Tryz.func189, rfl, by kernel_rfl⟩ (fun w G vs hg hi hv => ?_) (PuL.mem (.cons (.int _ _) (.cons (.int _ _) .nil))); rw [Vs.two64 hv]; obtain ⟨a, rfl⟩ : ∃ a : Nat, x = a := ⟨x.toNat, by omega⟩; obtain ⟨b, rfl⟩ : ∃ b : Nat, y = b := ⟨y.toNat, by omega⟩; refine (Tryz.bits_Mul64 a b (by omega) (by omega) w).mono ?_; rintro e w' ⟨rfl, rfl⟩; refine ⟨_, rfl, Below.refl _ _, fun G n => ?_⟩; refine .tup _ _ rfl fun j c y e e' => ?_
  match j, e, e' with
  | 0, e, e' => cases e; cases e'; exact .int _ _
  | 1, e, e' => cases e; cases e'; exact .int _ _
end Go.VL
end
section
namespace Go.VL
open Go.Proofs Go.RowKit
theorem idxFrom_any (p : Nat -> Bool) (hp : ∀ x, 128 <= x -> p x = true) (s : Str) : ∀ (f pos : Nat), s.length <= pos + f ->
    decide (0 <= Lib.idxFuncFrom p true ⟨s.toArray⟩ f pos) = (s.drop pos).any (fun c => p c.toNat)
  | 0, pos, h => by rw [List.drop_eq_nil_of_le (by omega)]; rfl
  | f + 1, pos, h => by
    have hsz : (⟨s.toArray⟩ : ByteArray).size = s.length := rfl; by_cases hlt : pos < s.length
    · have hlt' : pos < (⟨s.toArray⟩ : ByteArray).size := hlt; have hget : (⟨s.toArray⟩ : ByteArray)[pos]'hlt' = s[pos] := rfl; rw [List.drop_eq_getElem_cons hlt, List.any_cons]; simp only [Lib.idxFuncFrom, hsz, hlt, if_true]; by_cases ha : (s[pos]).toNat < 128
      · rw [decode_ascii ⟨s.toArray⟩ pos hlt' (by rw [hget]; exact ha), hget]; by_cases hq : p (s[pos]).toNat = true
        · simp only [hq, if_true, Bool.true_or]; exact decide_eq_true (by omega)
        · simp only [hq, Bool.false_or]; exact idxFrom_any p hp s f (pos + 1) (by omega)
      · have hd := decode_high ⟨s.toArray⟩ pos hlt' (by rw [hget]; omega); rw [if_pos (hp _ hd.1), hp _ (by omega), Bool.true_or]; exact decide_eq_true (by omega)
    · rw [List.drop_eq_nil_of_le (by omega), Lib.idxFuncFrom_end _ _ _ _ _ (by rw [hsz]; exact hlt)]; rfl
theorem idx_any (p : Nat -> Bool) (hp : ∀ x, 128 <= x -> p x = true) (s : Str) : decide (0 <= Lib.idxFunc p true ⟨s.toArray⟩) = s.any (fun c => p c.toNat) := by
  have h := idxFrom_any p hp s s.length 0 (by omega); rw [List.drop_zero] at h; exact h
def oddR (x : Nat) : Bool := bif decide (32 <= x) && decide (x <= 126) then x == 34 || x == 92 else true
theorem oddR_some (x : Nat) (h : x <= 1114111) : t_isText_1 (x : Int) = some (oddR x) := by
  have hw : IntKind.wrap .i64 (x : Int) = x := IntWalk.i64_in _ (by omega); unfold t_isText_1 t_spans oddR; rw [hw]; by_cases h1 : 32 <= x
  · have h1' : (32 : Int) <= x := by omega
    by_cases h2 : x <= 126
    · have h2' : (x : Int) <= 126 := by omega
      have e1 : ((x : Int) == 34) = (x == 34) := by rw [Bool.eq_iff_iff]; simp only [beq_iff_eq]; omega
      have e2 : ((x : Int) == 92) = (x == 92) := by rw [Bool.eq_iff_iff]; simp only [beq_iff_eq]; omega
      simp only [h1, h1', h2, h2', decide_true, cond_true, Bool.and_true, Option.bind_some, e1, e2]; cases x == 34 <;> rfl
    · have h2' : ¬ (x : Int) <= 126 := by omega
      simp [h1, h1', h2, h2']
  · have h1' : ¬ (32 : Int) <= x := by omega
    simp [h1, h1']
def odds (s : Str) : Bool := s.any (fun c => oddR c.toNat)
theorem odds_c (s : Str) : PCall Tryz.prog 143 [.str s, .fn (.func 142) [] []] (.bool (odds s)) := by
  have h := containsFunc_c (g := 142) oddR (fun args w => by kernel_rfl) (fun x hx => t_isText_1_c (oddR_some x hx)) s; rw [idx_any oddR (fun x hx => by
    have h2 : ¬ x <= 126 := by omega
    simp [oddR, h2]) s] at h
  exact h
end Go.VL
end
section
set_option maxRecDepth 8000
set_option maxHeartbeats 4000000
namespace Go.VL
open Go.Proofs
def t_isText (s_0 : Str) : Option Bool :=
  cond (decide ((s_0.length : Int) <= 40)) (some (!(odds s_0))) (some false)
theorem t_isText_c {s_0 : Str} {r : Bool} (h : t_isText s_0 = some r) : PCall Tryz.prog 92 [(.str s_0)] (.bool r) := by
  refine PCall.of_empty (PuL.mem (.cons (.str _) .nil)) (MCall_of_W ok92 (by simp) (W_start ?_)) (.bool _); unfold t_isText at h; unfold ac92; rcases cond_E h with ⟨e1, h⟩ | ⟨e1, h⟩
  ·try refine gos_ ?_
   refine mcall_pure (odds_c s_0) ?_; obtain rfl := som_E h; try refine gos_ ?_
   exact (.pure _ (.bool _))
  ·obtain rfl := som_E h; try refine gos_ ?_
   exact (.pure _ (.bool _))
end Go.VL
end
section
namespace Go.VL
variable [Glob]
section
variable {P : Program} {Q : Post} {σ : Nat -> PV} {s : List Fm} {α β : Type} {H : AH} {f : α -> List PV} {sz : Nat} {g : β -> List PV} {sz2 : Nat}
def Mk (f : α -> List PV) (sz : Nat) (xs : List α) (H : AH) (v : PV) (H' : AH) : Prop := ∃ ids, RowN H' f sz xs v ids /\ Nw H [] ids /\ HF [] H H' /\ ∀ c3, okc H c3 -> okc H' c3
def RowMk (P : Program) (g : FuncId) (args : List PV) (f : α -> List PV) (sz : Nat) (xs : List α) : Prop := ∀ H, MCall P g args H (Mk f sz xs H)
theorem MC_row {d : Option Nat} {g : FuncId} {args : List PV} {l : List AOp} {xs : List α} (hm : RowMk P g args f sz xs)
    (h : ∀ (v' : PV) (ids' : List Nat) (H' : AH), RowN H' f sz xs v' ids' -> Nw H [] ids' -> HF [] H H' -> (∀ c3, okc H c3 -> okc H' c3) -> WO P l s Q (upd σ d v') H') : MC P g args d l s Q σ H :=
  MCall.mono (hm H) fun v H' ⟨ids, h1, h2, h3, h4⟩ => h v ids H' h1 h2 h3 h4
theorem mk_mksl {bytes : Nat} {zero : List PV} {x y : AE} [hr : RowF f sz] (z : α) (hz : f z = zero) {k k' : IntKind} {n : Int} (hx : x.ev σ = .int k n) (hy : y.ev σ = .int k' n)
    (hb : 0 <= n /\ n <= 1099511627776 /\ bytes * n <= 1099511627776) (hs : 0 < sz) : WOp P (.d (.mksl sz bytes zero x y)) (Mk f sz (List.replicate n.toNat z) H) σ H := by
  have h := WO_mkrow (P := P) (s := []) (Q := fun e σ' H' => ∃ v, σ' = upd σ (some 0) v /\ Mk f sz (List.replicate n.toNat z) H v H') (d := some 0) (l := []) (H := H) (bytes := bytes) (x := x) (y := y) z hz hx hy ⟨hb.1, Int.le_refl _, hb.2.1, hb.2.2⟩ hs
    (fun v' ids' H' h1 h2 h3 h4 => ⟨v', rfl, ids', h1, h2, h3, h4⟩)
  have h2 : WD P (dop (.mksl sz bytes zero x y) σ H) (some 0) [] [] (fun e σ' H' => ∃ v, σ' = upd σ (some 0) v /\ Mk f sz (List.replicate n.toNat z) H v H') σ := h; show (match dop (.mksl sz bytes zero x y) σ H with | some (p, H') => Mk f sz (List.replicate n.toNat z) H p H' | none => False)
  revert h2; cases dop (.mksl sz bytes zero x y) σ H with
  | none => intro h2; exact h2
  | some q =>
    intro h2; obtain ⟨v, e, h3⟩ := (h2 : ∃ v, upd σ (some 0) q.1 = upd σ (some 0) v /\ Mk f sz (List.replicate n.toNat z) H v q.2); have e2 := congrFun e 0; simp only [upd, if_true] at e2; show Mk f sz (List.replicate n.toNat z) H q.1 q.2
    rw [e2]; exact h3
theorem mk_call {g : FuncId} {fs cs args : List PV} {es : List AE} {xs : List α} (hm : RowMk P g args f sz xs) (ha : fs ++ evs σ es ++ cs = args) : WOp P (.call (.c (.fn (.func g) fs cs)) es) (Mk f sz xs H) σ H := by
  show MCall P g (fs ++ evs σ es ++ cs) H _
  rw [ha]; exact hm H
def PureL (P : Program) : List (AOp × Bool) -> (Nat -> PV) -> (Nat -> PV) -> Prop
  | [], _, _ => True
  | (o, d) :: l, val, σ => (d = true \/ (o.g = none /\ ∀ H, WOp P o.k (fun r H'' => r = val 0 /\ H'' = H) σ H)) /\ PureL P l (fun i => val (i + 1)) (upd σ o.dst (val 0))
theorem PureL.at {P : Program} : ∀ {pr : List (AOp × Bool)} {val σ : Nat -> PV} (h : PureL P pr val σ) (i : Nat) (o : AOp), pr[i]? = some (o, false) -> gOn o (slF pr val σ i) /\ ∀ H, WOp P o.k (fun r H'' => r = val i /\ H'' = H) (slF pr val σ i) H
  | (o, d) :: l, val, σ, h, 0, o', e => by
    cases e; rcases h.1 with h1 | ⟨h1, h2⟩
    · cases h1
    · refine ⟨?_, h2⟩; unfold gOn; rw [h1]; trivial
  | (o, d) :: l, val, σ, h, i + 1, o', e => PureL.at (pr := l) h.2 i o' e
theorem par_rows2 {ms : List Nat} {pr : List (AOp × Bool)} {K : (Nat -> PV) -> AH -> Prop} {a b : Nat} {oa ob : AOp} {xs : List α} {ys : List β} (valf : PV -> PV -> Nat -> PV) (hr : rems pr = [a, b]) (hne : a ≠ b)
    (pra : pr[a]? = some (oa, true)) (prb : pr[b]? = some (ob, true)) (ha : ∀ x y, valf x y a = x) (hb : ∀ x y, valf x y b = y)
    (agA : ∀ x x' y i, i ≠ a -> befB ms a i = false -> valf x y i = valf x' y i) (agB : ∀ x y y' i, i ≠ b -> befB ms b i = false -> valf x y i = valf x y' i)
    (pure : ∀ x y, PureL P pr (valf x y) σ)
    (mkA : ∀ y H, gOn oa (slF pr (valf ud y) σ a) /\ WOp P oa.k (Mk f sz xs H) (slF pr (valf ud y) σ a) H)
    (mkB : ∀ x H, gOn ob (slF pr (valf x ud) σ b) /\ WOp P ob.k (Mk g sz2 ys H) (slF pr (valf x ud) σ b) H)
    (hend : ∀ va vb ida idb H2, RowN H2 f sz xs va ida -> RowN H2 g sz2 ys vb idb -> Dj ida idb -> Nw H [] ida -> Nw H [] idb -> HF [] H H2 -> (∀ c3, okc H c3 -> okc H2 c3) -> K (slF pr (valf va vb) σ pr.length) H2) :
    ∃ val : Nat -> PV, WSp P ms pr K σ (rems pr).length (rems pr) val H := by
  refine ⟨valf ud ud, ?_⟩; rw [hr]
  have hpure : ∀ (rem : List Nat) (x y : PV) (H : AH) (i : Nat) (o : AOp), pr[i]? = some (o, false) -> (∀ s ∈ rem, befB ms s i = false) ->
      (gOff o (slF pr (valf x y) σ i) /\ valf x y i = ud) \/ (gOn o (slF pr (valf x y) σ i) /\ WOp P o.k (fun r H'' => r = valf x y i /\ H'' = H) (slF pr (valf x y) σ i) H) :=
    fun rem x y H i o e _ => .inr ⟨((pure x y).at i o e).1, ((pure x y).at i o e).2 H⟩
  have hfa : [a, b].filter (· != a) = [b] := by simp [Ne.symm hne]
  have hfb : [a, b].filter (· != b) = [a] := by simp [hne]
  have hj : ∀ {ida idb : List Nat} {H1 : AH}, (∀ i ∈ ida, i < H1.next) -> Nw H1 [] idb -> Dj ida idb := fun h1 h2 i hi hj => by
    rcases h2 i hj with q | q
    · cases q
    · have := h1 i hi; omega
  have hnw : ∀ {H1 : AH} {idb : List Nat}, HF [] H H1 -> Nw H1 [] idb -> Nw H [] idb := fun h1 h2 i hi => by
    rcases h2 i hi with q | q
    · exact .inl q
    · exact .inr (Nat.le_trans h1.1 q)
  have hft : ∀ {H1 H2 : AH}, HF [] H H1 -> HF [] H1 H2 -> HF [] H H2 := fun h1 h2 => ⟨Nat.le_trans h1.1 h2.1, fun i hi hm => (h2.2 i (Nat.lt_of_lt_of_le hi h1.1) hm).trans (h1.2 i hi hm)⟩
  unfold WSp; refine ⟨hpure _ ud ud H, (fun e => by cases e), fun j hj' o e hbj => ?_⟩; rcases List.mem_cons.1 hj' with rfl | hj'
  · rw [pra] at e; cases e; refine ⟨(mkA ud H).1, WOp_mono (fun va H1 hm => ?_) (mkA ud H).2⟩; obtain ⟨ida, a1, a2, a3, a4⟩ := hm; refine ⟨valf va ud, fun i hi hbi => ?_, ha _ _, ?_⟩
    · exact agA _ _ _ i (fun q => hi (q ▸ List.mem_cons_self ..)) (hbi _ (List.mem_cons_self ..))
    · rw [hfa]; unfold WSp; refine ⟨hpure _ va ud H1, (fun e => by cases e), fun j hj2 o e hbj => ?_⟩; rw [List.mem_singleton.1 hj2] at e ⊢; rw [prb] at e; cases e; refine ⟨(mkB va H1).1, WOp_mono (fun vb H2 hm => ?_) (mkB va H1).2⟩; obtain ⟨idb, b1, b2, b3, b4⟩ := hm; refine ⟨valf va vb, fun i hi hbi => agB _ _ _ i (fun q => hi (q ▸ List.mem_cons_self ..)) (hbi _ (List.mem_cons_self ..)), hb _ _, ?_⟩
      have hf : [b].filter (· != b) = [] := by simp
      rw [hf]; unfold WSp; exact ⟨hpure _ va vb H2, fun _ => hend va vb ida idb H2 (a1.hf b3 Dj.nil.symm) b1 (hj (fun i hi => a1.lt i hi) b2) a2 (hnw a3 b2) (hft a3 b3) (fun c3 h => b4 c3 (a4 c3 h)), rfl⟩
  · rw [List.mem_singleton.1 hj'] at e ⊢; rw [prb] at e; cases e; refine ⟨(mkB ud H).1, WOp_mono (fun vb H1 hm => ?_) (mkB ud H).2⟩; obtain ⟨idb, b1, b2, b3, b4⟩ := hm; refine ⟨valf ud vb, fun i hi hbi => ?_, hb _ _, ?_⟩
    · exact agB _ _ _ i (fun q => hi (q ▸ List.mem_cons_of_mem _ (List.mem_cons_self ..))) (hbi _ (List.mem_cons_of_mem _ (List.mem_cons_self ..)))
    · rw [hfb]; unfold WSp; refine ⟨hpure _ ud vb H1, (fun e => by cases e), fun j hj2 o e hbj => ?_⟩; rw [List.mem_singleton.1 hj2] at e ⊢; rw [pra] at e; cases e; refine ⟨(mkA vb H1).1, WOp_mono (fun va H2 hm => ?_) (mkA vb H1).2⟩; obtain ⟨ida, a1, a2, a3, a4⟩ := hm; refine ⟨valf va vb, fun i hi hbi => agA _ _ _ i (fun q => hi (q ▸ List.mem_cons_self ..)) (hbi _ (List.mem_cons_self ..)), ha _ _, ?_⟩
      have hf : [a].filter (· != a) = [] := by simp
      rw [hf]; unfold WSp; exact ⟨hpure _ va vb H2, fun _ => hend va vb ida idb H2 a1 (b1.hf a3 Dj.nil.symm) (Dj.symm (hj (fun i hi => b1.lt i hi) a2)) (hnw b3 a2) b2 (hft b3 a3) (fun c3 h => a4 c3 (b4 c3 h)), rfl⟩
theorem WS_par2 {ms : List Nat} {pr : List (AOp × Bool)} {post : List AOp} (h : ∃ val : Nat -> PV, WSp P ms pr (fun σ H => WO P post s Q σ H) σ (rems pr).length (rems pr) val H) : WS P (.par2 ms pr post) s Q σ H := h
end
end Go.VL
end
section
namespace Go.VL
open Go.Proofs Go.RowKit
theorem nil_V {G : Gh} {m : Nat} {v : Value} (h : V G m (.isl [] .nil) v) : v = .slice none 0 0 := by
  generalize hp : PV.isl [] .nil = p at h; cases h with
  | isl es c sz ad cap f h1 h2 h3 h4 h5 =>
    cases hp; have q1 := h5.1; have q2 := h5.2.2; rw [q1, q2]; rfl
  | _ => cases hp
theorem Vs.nilint {G : Gh} {m : Nat} {n : Int} {vs : Array Value} (h : Vs G m [.isl [] .nil, .int .i64 n] vs) : vs = #[.slice none 0 0, .int .i64 n] := by
  obtain ⟨h1, h2⟩ := h
  match vs, h1, h2 with
  | ⟨[v, u]⟩, _, h2 =>
    have e1 := h2 0 (.isl [] .nil) v rfl rfl; have e2 := h2 1 (.int .i64 n) u rfl rfl; cases e2; have e3 := nil_V e1; rw [e3]
theorem zsize (zs : Array Value) (k : Nat) : (Builtin.zeroCells zs k).size = k * zs.size := by simp [Builtin.zeroCells]
theorem grow167_c (n : Int) (h : 0 < n /\ n <= 1000000) : RowMk Tryz.prog 167 [.isl [] .nil, .int .i64 n] Operator.cells 7 [] := by
  intro H; refine ⟨⟨_, Tryz.func167, rfl, by kernel_rfl⟩, fun B G w vs hU hM hv => ?_⟩; obtain ⟨n, rfl⟩ : ∃ k : Nat, n = k := ⟨n.toNat, by omega⟩; rw [Vs.nilint hv]; obtain ⟨i0, hi0, hq⟩ : ∃ i0, Tryz.prog.info? (Tryz.growOp_ren.t 25) = some i0 /\ (i0.zero.map fun z => z.cells.size) = some 7 /\ i0.size = 7 /\ i0.bytes = 64 := by
    have h : (Tryz.prog.info? (Tryz.growOp_ren.t 25)).map (fun i0 => ((i0.zero.map fun z => z.cells.size), i0.size, i0.bytes)) = some (some 7, 7, 64) := by kernel_rfl
    cases hi : Tryz.prog.info? (Tryz.growOp_ren.t 25) with
    | none => rw [hi] at h; cases h
    | some i0 => rw [hi] at h; simp only [Option.map_some, Option.some.injEq, Prod.mk.injEq] at h; exact ⟨i0, rfl, h.1, h.2.1, h.2.2⟩
  obtain ⟨hz, hs, hb⟩ := hq; obtain ⟨z, hz0, hz1⟩ := Option.map_eq_some_iff.1 hz; have key := Any8.slices_Grow_grow Tryz.growOp i0 z hi0 hz0 (by omega) none 0 0 n [] w (Nat.le_refl _) (by omega) (by rw [hb]; omega) (by omega) (by simp) (fun _ => rfl) (fun a e => by cases e); have hge := grownCap_ge w (0 + n) 0 (Tryz.growOp_ren.t 25); refine key.mono ?_; rintro e w' ⟨rfl, rfl⟩
  obtain ⟨G', e1, e2, e3⟩ := HM.newObj (w := w.drew) hU hM.drew (Tryz.growOp_ren.t 25) (Vs.rep_any (G := G) H.next (grownCap w (0 + n) 0 (Tryz.growOp_ren.t 25) * 7) _ (by
    show ((#[] : Array Value) ++ Builtin.zeroCells z.cells (0 + n - 0) ++ Builtin.zeroCells z.cells (grownCap w (0 + n) 0 (Tryz.growOp_ren.t 25) - (0 + n))).size = _
    rw [Array.size_append, Array.size_append, zsize, zsize, hz1]; simp only [Array.size_empty]; omega))
  refine ⟨_, _, _, G', rfl, Tr.drewAlloc w _, e1, Nat.le_succ _, e2, .msl H.next 0 0 _ 7 _ (Nat.lt_succ_self _) e3, [H.next], .inr ⟨H.next, _, List.replicate (grownCap w (0 + n) 0 (Tryz.growOp_ren.t 25) * 7) .any, rfl, rfl, Nat.zero_le _, Nat.lt_succ_self _, ?_, ?_⟩, ?_, (HF.refl _ _).new, fun c3 hc => hc.new⟩
  · show (if H.next = H.next then some _ else _) = _
    rw [if_pos rfl]; rfl
  · rw [List.length_replicate, List.length_nil, Nat.sub_zero]
  · intro i hi; rw [List.mem_singleton.1 hi]; exact .inr (Nat.le_refl _)
end Go.VL
end
section
set_option maxRecDepth 8000
set_option maxHeartbeats 4000000
namespace Go.VL
open Go.Proofs
def t_table_1_b0 : Nat -> Int -> Int -> (List Operator) -> (List Str) -> Int -> Int -> Option (List Operator)
  | 0, _, _, _, _, _, _ => none
  | k + 1, low_0, high_1, out_7, t_10, t_11, t_12 =>
    cond (decide (t_12 < t_11)) (if 0 <= t_12 then Option.bind (t_10[t_12.toNat]?) fun x3 => if (out_7.length + 1) * 64 <= 1099511627776 then t_table_1_b0 k low_0 high_1 (out_7 ++ [(Operator.mk x3 0 low_0 high_1 false 1 1)]) t_10 t_11 (IntKind.wrap .i64 (t_12 + 1)) else none else none) (some (out_7))
def t_table_1_b0l : List Nat := [7, 9] ++ List.range' 12 12
theorem t_table_1_b0_W : ∀ (k : Nat) (low_0 : Int) (high_1 : Int) (out_7 : List Operator) (t_10 : List Str) (t_11 : Int) (t_12 : Int) (c_out_7_b0 : Ck) (σ0 σ : Nat -> PV) (H0 H : AH) (f0 : Fr t_table_1_b0l σ0 σ) (hf0 : HF [] H0 H) (sl : σ 0 = (.int .i64 low_0) /\ σ 1 = (.int .i64 high_1) /\ σ 7 = (.isl (out_7.map Operator.cells) c_out_7_b0) /\ σ 10 = (.isl (t_10.map strL) .unk) /\ σ 11 = (.int .i64 t_11) /\ σ 12 = (.int .i64 t_12)) (ok_out_7 : okc H c_out_7_b0) (o : List Operator) (h : t_table_1_b0 k low_0 high_1 out_7 t_10 t_11 t_12 = some o) (Q : Post) (q0 : ∀ (p : List Operator) (c0 : Ck) (σ' : Nat -> PV) (H' : AH), o = p -> Fr t_table_1_b0l σ0 σ' -> HF [] H0 H' -> (σ' 7 = (.isl (p.map Operator.cells) c0)) -> Q (.exit 0) σ' H') , W Tryz.prog (.loop ac113_b0) Q σ H := by
  intro k
  induction k with
  | zero => intro low_0 high_1 out_7 t_10 t_11 t_12 c_out_7_b0 σ0 σ H0 H f0 hf0 sl ok_out_7 o h Q q0; simp only [t_table_1_b0, reduceCtorEq] at h
  | succ k ih =>
    intro low_0 high_1 out_7 t_10 t_11 t_12 c_out_7_b0 σ0 σ H0 H f0 hf0 sl ok_out_7 o h Q q0; obtain ⟨s0, s1, s7, s10, s11, s12⟩ := sl; have hle0 := hf0.1; unfold t_table_1_b0 at h; refine W_loopK (fun K hK => W_start ?_); unfold ac113_b0; rcases cond_E h with ⟨e1, h⟩ | ⟨e1, h⟩
    ·obtain ⟨e2, h⟩ := if_E h; obtain ⟨x3, e4, h⟩ := bind_E h; obtain ⟨e9, h⟩ := if_E h; try refine gos_ ?_
     refine WO_app (f := Operator.cells) Operator.row out_7 ([(Operator.mk x3 0 low_0 high_1 false 1 1)] : List Operator) c_out_7_b0 .exact sls_ sls_ ok_ (by first | exact e9 | (simp only [List.length_cons, List.length_nil] ; exact e9)) (fun c5 H6 ok7 le ob10 rl8 => ?_); have hf11 : HF [] _ H6 := ⟨le, fun i _ _ => ob10 i⟩; try simp only [AH.new_next, AH.put_next, AH.tok_next, AH.use_next] at le
     try refine gos_ ?_
     refine hK _ _ ?_; exact ih low_0 high_1 (out_7 ++ [(Operator.mk x3 0 low_0 high_1 false 1 1)]) t_10 t_11 (IntKind.wrap .i64 (t_12 + 1)) c5 _ _ _ _ fr_ (by repeat (first | exact hf0 | refine HF.new ?_ | refine HF.tokd ?_ | refine HF.used ?_ | refine HF.put (by first | (right; omega) | (left; simp only [List.mem_cons, true_or, or_true])) ?_ | refine HF.via hf11 (by first | exact fun i hi => absurd hi List.not_mem_nil | (intro i hi; simp only [List.mem_cons, List.not_mem_nil, or_false] at hi ⊢; first | exact .inl hi | omega)) ?_)) sls_ ok_ _ h _ q0
    ·obtain rfl := som_E h; try refine gos_ ?_
     exact q0 _ c_out_7_b0 _ _ rfl fr_ (by repeat (first | exact hf0 | refine HF.new ?_ | refine HF.tokd ?_ | refine HF.used ?_ | refine HF.put (by first | (right; omega) | (left; simp only [List.mem_cons, true_or, or_true])) ?_)) sls_
def t_table_1 (k : Nat) (low_0 : Int) (high_1 : Int) (texts_2 : List Str) : Option (List Operator) :=
  Option.bind (t_table_1_b0 k low_0 high_1 ([] : List Operator) texts_2 (texts_2.length : Int) 0) (fun p14 => some p14)
theorem t_table_1_c {k : Nat} {low_0 : Int} {high_1 : Int} {texts_2 : List Str} {c2 : Ck} {r : List Operator} (h : t_table_1 k low_0 high_1 texts_2 = some r) : PCall Tryz.prog 113 [(.int .i64 low_0), (.int .i64 high_1), (.isl (texts_2.map strL) c2)] (.isl (r.map Operator.cells) .unk) := by
  refine PCall.lw (.same (.same (.isl .nil))) (PCall.of_empty (PuL.mem (.cons (.int _ _) (.cons (.int _ _) (.cons (pu_sl pu_strL _) .nil)))) (MCall_of_W ok113 (by simp) (W_start ?_)) (pu_sl Operator.pu _)); unfold t_table_1 at h; unfold ac113; try refine gos_ ?_
  obtain ⟨o12, h13, h⟩ := bind_E h; refine t_table_1_b0_W k low_0 high_1 ([] : List Operator) texts_2 (texts_2.length : Int) 0 .nil _ _ _ _ (Fr.refl _ _) (HF.refl _ _) sls_ ok_ _ h13 _ ?_
  ·rintro p14 c18 σ' H17 eo fr15 hf16 s19; rw [eo] at h; have le := hf16.1; try simp only [AH.new_next, AH.put_next, AH.tok_next, AH.use_next] at le
   obtain rfl := som_E h; try refine gos_ ?_
   exact (fz_sl Operator.pu p14 _)
def t_table_2_b0 : Nat -> Int -> Int -> Bool -> (List Operator) -> (List Str) -> Int -> Int -> Option (List Operator)
  | 0, _, _, _, _, _, _, _ => none
  | k + 1, low_0, high_1, left_2, out_9, t_12, t_13, t_14 =>
    cond (decide (t_14 < t_13)) (if 0 <= t_14 then Option.bind (t_12[t_14.toNat]?) fun x3 => if (out_9.length + 1) * 64 <= 1099511627776 then t_table_2_b0 k low_0 high_1 left_2 (out_9 ++ [(Operator.mk x3 1 low_0 high_1 left_2 2 2)]) t_12 t_13 (IntKind.wrap .i64 (t_14 + 1)) else none else none) (some (out_9))
def t_table_2_b0l : List Nat := [9, 11] ++ List.range' 14 13
theorem t_table_2_b0_W : ∀ (k : Nat) (low_0 : Int) (high_1 : Int) (left_2 : Bool) (out_9 : List Operator) (t_12 : List Str) (t_13 : Int) (t_14 : Int) (c_out_9_b0 : Ck) (σ0 σ : Nat -> PV) (H0 H : AH) (f0 : Fr t_table_2_b0l σ0 σ) (hf0 : HF [] H0 H) (sl : σ 0 = (.int .i64 low_0) /\ σ 1 = (.int .i64 high_1) /\ σ 2 = (.bool left_2) /\ σ 9 = (.isl (out_9.map Operator.cells) c_out_9_b0) /\ σ 12 = (.isl (t_12.map strL) .unk) /\ σ 13 = (.int .i64 t_13) /\ σ 14 = (.int .i64 t_14)) (ok_out_9 : okc H c_out_9_b0) (o : List Operator) (h : t_table_2_b0 k low_0 high_1 left_2 out_9 t_12 t_13 t_14 = some o) (Q : Post) (q0 : ∀ (p : List Operator) (c0 : Ck) (σ' : Nat -> PV) (H' : AH), o = p -> Fr t_table_2_b0l σ0 σ' -> HF [] H0 H' -> (σ' 9 = (.isl (p.map Operator.cells) c0)) -> Q (.exit 0) σ' H') , W Tryz.prog (.loop ac114_b0) Q σ H := by
  intro k
  induction k with
  | zero => intro low_0 high_1 left_2 out_9 t_12 t_13 t_14 c_out_9_b0 σ0 σ H0 H f0 hf0 sl ok_out_9 o h Q q0; simp only [t_table_2_b0, reduceCtorEq] at h
  | succ k ih =>
    intro low_0 high_1 left_2 out_9 t_12 t_13 t_14 c_out_9_b0 σ0 σ H0 H f0 hf0 sl ok_out_9 o h Q q0; obtain ⟨s0, s1, s2, s9, s12, s13, s14⟩ := sl; have hle0 := hf0.1; unfold t_table_2_b0 at h; refine W_loopK (fun K hK => W_start ?_); unfold ac114_b0; rcases cond_E h with ⟨e1, h⟩ | ⟨e1, h⟩
    ·obtain ⟨e2, h⟩ := if_E h; obtain ⟨x3, e4, h⟩ := bind_E h; obtain ⟨e9, h⟩ := if_E h; try refine gos_ ?_
     refine WO_app (f := Operator.cells) Operator.row out_9 ([(Operator.mk x3 1 low_0 high_1 left_2 2 2)] : List Operator) c_out_9_b0 .exact sls_ sls_ ok_ (by first | exact e9 | (simp only [List.length_cons, List.length_nil] ; exact e9)) (fun c5 H6 ok7 le ob10 rl8 => ?_); have hf11 : HF [] _ H6 := ⟨le, fun i _ _ => ob10 i⟩; try simp only [AH.new_next, AH.put_next, AH.tok_next, AH.use_next] at le
     try refine gos_ ?_
     refine hK _ _ ?_; exact ih low_0 high_1 left_2 (out_9 ++ [(Operator.mk x3 1 low_0 high_1 left_2 2 2)]) t_12 t_13 (IntKind.wrap .i64 (t_14 + 1)) c5 _ _ _ _ fr_ (by repeat (first | exact hf0 | refine HF.new ?_ | refine HF.tokd ?_ | refine HF.used ?_ | refine HF.put (by first | (right; omega) | (left; simp only [List.mem_cons, true_or, or_true])) ?_ | refine HF.via hf11 (by first | exact fun i hi => absurd hi List.not_mem_nil | (intro i hi; simp only [List.mem_cons, List.not_mem_nil, or_false] at hi ⊢; first | exact .inl hi | omega)) ?_)) sls_ ok_ _ h _ q0
    ·obtain rfl := som_E h; try refine gos_ ?_
     exact q0 _ c_out_9_b0 _ _ rfl fr_ (by repeat (first | exact hf0 | refine HF.new ?_ | refine HF.tokd ?_ | refine HF.used ?_ | refine HF.put (by first | (right; omega) | (left; simp only [List.mem_cons, true_or, or_true])) ?_)) sls_
def t_table_2 (k : Nat) (low_0 : Int) (high_1 : Int) (left_2 : Bool) (texts_3 : List Str) : Option (List Operator) :=
  Option.bind (t_table_2_b0 k low_0 high_1 left_2 ([] : List Operator) texts_3 (texts_3.length : Int) 0) (fun p14 => some p14)
theorem t_table_2_c {k : Nat} {low_0 : Int} {high_1 : Int} {left_2 : Bool} {texts_3 : List Str} {c3 : Ck} {r : List Operator} (h : t_table_2 k low_0 high_1 left_2 texts_3 = some r) : PCall Tryz.prog 114 [(.int .i64 low_0), (.int .i64 high_1), (.bool left_2), (.isl (texts_3.map strL) c3)] (.isl (r.map Operator.cells) .unk) := by
  refine PCall.lw (.same (.same (.same (.isl .nil)))) (PCall.of_empty (PuL.mem (.cons (.int _ _) (.cons (.int _ _) (.cons (.bool _) (.cons (pu_sl pu_strL _) .nil))))) (MCall_of_W ok114 (by simp) (W_start ?_)) (pu_sl Operator.pu _)); unfold t_table_2 at h; unfold ac114; try refine gos_ ?_
  obtain ⟨o12, h13, h⟩ := bind_E h; refine t_table_2_b0_W k low_0 high_1 left_2 ([] : List Operator) texts_3 (texts_3.length : Int) 0 .nil _ _ _ _ (Fr.refl _ _) (HF.refl _ _) sls_ ok_ _ h13 _ ?_
  ·rintro p14 c18 σ' H17 eo fr15 hf16 s19; rw [eo] at h; have le := hf16.1; try simp only [AH.new_next, AH.put_next, AH.tok_next, AH.use_next] at le
   obtain rfl := som_E h; try refine gos_ ?_
   exact (fz_sl Operator.pu p14 _)
def t_table_i115_b0 : Nat -> Int -> (List (List Operator)) -> Int -> Option Int
  | 0, _, _, _ => none
  | k + 1, size_3, t_9, t_11 =>
    cond (decide (t_11 < 24)) (if 0 <= t_11 then Option.bind (t_9[t_11.toNat]?) fun x50 => cond (decide ((IntKind.wrap .i64 (size_3 + (x50.length : Int))) < 0)) (none) (t_table_i115_b0 k (IntKind.wrap .i64 (size_3 + (x50.length : Int))) t_9 (IntKind.wrap .i64 (t_11 + 1))) else none) (some (size_3))
def t_table_i115_b0l : List Nat := [3, 5] ++ List.range' 11 12
theorem t_table_i115_b0_W : ∀ (k : Nat) (size_3 : Int) (t_9 : List (List Operator)) (t_11 : Int) (c_t_9_b0 : Ck) (σ0 σ : Nat -> PV) (H : AH) (f0 : Fr t_table_i115_b0l σ0 σ) (sl : σ 3 = (.int .i64 size_3) /\ σ 9 = (.isl (t_9.map (slL Operator.cells)) c_t_9_b0) /\ σ 10 = (.int .i64 24) /\ σ 11 = (.int .i64 t_11)) (o : Int) (h : t_table_i115_b0 k size_3 t_9 t_11 = some o) (Q : Post) (q0 : ∀ (p : Int) (σ' : Nat -> PV), o = p -> Fr t_table_i115_b0l σ0 σ' -> (σ' 3 = (.int .i64 p)) -> Q (.exit 0) σ' H) , W Tryz.prog (.loop ac115_b0) Q σ H := by
  intro k
  induction k with
  | zero => intro size_3 t_9 t_11 c_t_9_b0 σ0 σ H f0 sl o h Q q0; simp only [t_table_i115_b0, reduceCtorEq] at h
  | succ k ih =>
    intro size_3 t_9 t_11 c_t_9_b0 σ0 σ H f0 sl o h Q q0; obtain ⟨s3, s9, s10, s11⟩ := sl; unfold t_table_i115_b0 at h; refine W_loopK (fun K hK => W_start ?_); unfold ac115_b0; rcases cond_E h with ⟨e48, h⟩ | ⟨e48, h⟩
    ·obtain ⟨e49, h⟩ := if_E h; obtain ⟨x50, e51, h⟩ := bind_E h; rcases cond_E h with ⟨e52, h⟩ | ⟨e52, h⟩
     ·cases h
     ·try refine go_ ?_
      refine hK _ _ ?_; exact ih (IntKind.wrap .i64 (size_3 + (x50.length : Int))) t_9 (IntKind.wrap .i64 (t_11 + 1)) c_t_9_b0 _ _ _ fr_ sl_ _ h _ q0
    ·obtain rfl := som_E h; try refine go_ ?_
     exact q0 _ _ rfl fr_ sl_
def t_table_i115_b1 : Nat -> (List Operator) -> (List (List Operator)) -> Int -> Option (List Operator)
  | 0, _, _, _ => none
  | k + 1, newslice_6, t_25, t_27 =>
    cond (decide (t_27 < 24)) (if 0 <= t_27 then Option.bind (t_25[t_27.toNat]?) fun x71 => if 0 < x71.length /\ (newslice_6.length + x71.length) * 64 <= 1099511627776 then t_table_i115_b1 k (newslice_6 ++ x71) t_25 (IntKind.wrap .i64 (t_27 + 1)) else none else none) (some (newslice_6))
def t_table_i115_b1l : List Nat := [6, 8] ++ List.range' 27 8
theorem t_table_i115_b1_W : ∀ (k : Nat) (v_newslice_6 : PV) (ids_newslice_6 : List Nat) (M : List Nat) (newslice_6 : List Operator) (t_25 : List (List Operator)) (t_27 : Int) (c_t_25_b1 : Ck) (σ0 σ : Nat -> PV) (H0 H : AH) (f0 : Fr t_table_i115_b1l σ0 σ) (hf0 : HF M H0 H) (sl : σ 6 = v_newslice_6 /\ σ 25 = (.isl (t_25.map (slL Operator.cells)) c_t_25_b1) /\ σ 26 = (.int .i64 24) /\ σ 27 = (.int .i64 t_27)) (r_newslice_6 : RowN H Operator.cells 7 newslice_6 v_newslice_6 ids_newslice_6) (nw_newslice_6 : Nw H0 M ids_newslice_6) (o : List Operator) (h : t_table_i115_b1 k newslice_6 t_25 t_27 = some o) (Q : Post) (q0 : ∀ (p : List Operator) (v0 : PV) (ids0 : List Nat) (σ' : Nat -> PV) (H' : AH), o = p -> Fr t_table_i115_b1l σ0 σ' -> HF M H0 H' -> (σ' 6 = v0) -> RowN H' Operator.cells 7 p v0 ids0 -> Nw H0 M ids0 -> Q (.exit 2) σ' H') , W Tryz.prog (.loop ac115_b1) Q σ H := by
  intro k
  induction k with
  | zero => intro v_newslice_6 ids_newslice_6 M newslice_6 t_25 t_27 c_t_25_b1 σ0 σ H0 H f0 hf0 sl r_newslice_6 nw_newslice_6 o h Q q0; simp only [t_table_i115_b1, reduceCtorEq] at h
  | succ k ih =>
    intro v_newslice_6 ids_newslice_6 M newslice_6 t_25 t_27 c_t_25_b1 σ0 σ H0 H f0 hf0 sl r_newslice_6 nw_newslice_6 o h Q q0; obtain ⟨s6, s25, s26, s27⟩ := sl; have hle0 := hf0.1; unfold t_table_i115_b1 at h; refine W_loopK (fun K hK => W_start ?_); unfold ac115_b1; rcases cond_E h with ⟨e69, h⟩ | ⟨e69, h⟩
    ·obtain ⟨e70, h⟩ := if_E h; obtain ⟨x71, e72, h⟩ := bind_E h; obtain ⟨e73, h⟩ := if_E h; try refine go_ ?_
     refine WO_rowapp (f := Operator.cells) (v := v_newslice_6) Operator.row newslice_6 (x71 : List Operator) .unk sl_ (by repeat (first | exact r_newslice_6 | apply RowN.new | refine RowN.put ?_ (fun hm => by have := RowN.lt r_newslice_6 _ hm; omega))) sl_ e73.1 e73.2 (fun v74 ids75 H76 r77 nw78 hf79 ok80 => ?_); have le := hf79.1; try simp only [AH.new_next, AH.put_next, AH.tok_next, AH.use_next] at le
     try refine go_ ?_
     refine hK _ _ ?_; exact ih v74 ids75 M (newslice_6 ++ x71) t_25 (IntKind.wrap .i64 (t_27 + 1)) c_t_25_b1 _ _ _ _ fr_ (by repeat (first | exact hf0 | refine HF.new ?_ | refine HF.tokd ?_ | refine HF.used ?_ | refine HF.put (by first | (right; omega) | (left; simp only [List.mem_cons, true_or, or_true])) ?_ | refine HF.via hf79 nw_newslice_6 ?_)) sl_ (by repeat (first | exact r77 | apply RowN.new | refine RowN.put ?_ (fun hm => by have := RowN.lt r77 _ hm; omega))) (Nw.trans nw_newslice_6 om_ nw78) _ h _ q0
    ·obtain rfl := som_E h; try refine go_ ?_
     exact q0 _ v_newslice_6 ids_newslice_6 _ _ rfl fr_ (by repeat (first | exact hf0 | refine HF.new ?_ | refine HF.tokd ?_ | refine HF.used ?_ | refine HF.put (by first | (right; omega) | (left; simp only [List.mem_cons, true_or, or_true])) ?_)) sl_ (by repeat (first | exact r_newslice_6 | apply RowN.new | refine RowN.put ?_ (fun hm => by have := RowN.lt r_newslice_6 _ hm; omega))) nw_newslice_6
def t_table_b0 : Nat -> (List Operator) -> Int -> Int -> Option (List Operator)
  | 0, _, _, _ => none
  | k + 1, out_3, t_79, t_80 =>
    cond (decide (t_80 < t_79)) (if 0 <= t_80 then Option.bind (out_3[t_80.toNat]?) fun x95 => cond (x95.text == ([92, 88] : Str)) (t_table_b0 k (out_3.set t_80.toNat (Operator.mk x95.text x95.fix x95.low x95.high x95.left x95.least 4)) t_79 (IntKind.wrap .i64 (t_80 + 1))) (t_table_b0 k out_3 t_79 (IntKind.wrap .i64 (t_80 + 1))) else none) (some (out_3))
def t_table_b0l : List Nat := [4] ++ List.range' 80 14
theorem t_table_b0_W : ∀ (k : Nat) (v_out_3 : PV) (ids_out_3 : List Nat) (M : List Nat) (out_3 : List Operator) (t_79 : Int) (t_80 : Int) (σ0 σ : Nat -> PV) (H0 H : AH) (f0 : Fr t_table_b0l σ0 σ) (hf0 : HF M H0 H) (sl : σ 3 = v_out_3 /\ σ 79 = (.int .i64 t_79) /\ σ 80 = (.int .i64 t_80)) (r_out_3 : RowN H Operator.cells 7 out_3 v_out_3 ids_out_3) (nw_out_3 : Nw H0 M ids_out_3) (o : List Operator) (h : t_table_b0 k out_3 t_79 t_80 = some o) (Q : Post) (q0 : ∀ (p : List Operator) (v0 : PV) (ids0 : List Nat) (σ' : Nat -> PV) (H' : AH), o = p -> Fr t_table_b0l σ0 σ' -> HF M H0 H' -> (σ' 3 = v0) -> RowN H' Operator.cells 7 p v0 ids0 -> Nw H0 M ids0 -> Q (.exit 0) σ' H') , W Tryz.prog (.loop ac65_b0) Q σ H := by
  intro k
  induction k with
  | zero => intro v_out_3 ids_out_3 M out_3 t_79 t_80 σ0 σ H0 H f0 hf0 sl r_out_3 nw_out_3 o h Q q0; simp only [t_table_b0, reduceCtorEq] at h
  | succ k ih =>
    intro v_out_3 ids_out_3 M out_3 t_79 t_80 σ0 σ H0 H f0 hf0 sl r_out_3 nw_out_3 o h Q q0; obtain ⟨s3, s79, s80⟩ := sl; have hle0 := hf0.1; unfold t_table_b0 at h; refine W_loopK (fun K hK => W_start ?_); unfold ac65_b0; rcases cond_E h with ⟨e93, h⟩ | ⟨e93, h⟩
    ·obtain ⟨e94, h⟩ := if_E h; obtain ⟨x95, e96, h⟩ := bind_E h; obtain ⟨w97, w98, hidw97, hil, w99, hC, hL, hD, hI⟩ := RowN.content r_out_3 e96; have w100 := ne_next hil; have w101 := ne_add hil; have w102 : idxPV 7 v_out_3 (.int .i64 t_80) = some (.ref w97 (t_80.toNat * 7)) := by simpa using hI .i64 t_80 (by first | omega | decide) (by first | rfl | omega)
     have w97c0 : w98[t_80.toNat * 7]? = some (.str x95.text) := by simpa using hC 0 _ rfl
     have w97c1 : w98[t_80.toNat * 7 + 1]? = some (.int .i64 x95.fix) := by simpa using hC 1 _ rfl
     have w97c2 : w98[t_80.toNat * 7 + 2]? = some (.int .i64 x95.low) := by simpa using hC 2 _ rfl
     have w97c3 : w98[t_80.toNat * 7 + 3]? = some (.int .i64 x95.high) := by simpa using hC 3 _ rfl
     have w97c4 : w98[t_80.toNat * 7 + 4]? = some (.bool x95.left) := by simpa using hC 4 _ rfl
     have w97c5 : w98[t_80.toNat * 7 + 5]? = some (.int .i64 x95.least) := by simpa using hC 5 _ rfl
     have w97c6 : w98[t_80.toNat * 7 + 6]? = some (.int .i64 x95.most) := by simpa using hC 6 _ rfl
     have w97l : t_80.toNat * 7 + 7 <= w98.length := by simpa using hL 7 (Nat.le_refl _)
     have w97d : List.take 7 (List.drop (t_80.toNat * 7) w98) = Operator.cells x95 := hD; clear hC hL hD hI; rcases cond_E h with ⟨e103, h⟩ | ⟨e103, h⟩
     ·try refine go_ ?_
      refine WO_rowset (f := Operator.cells) (id := w97) (o := t_80.toNat * 7 + 6) (i := t_80.toNat) (j := 6) (a := x95) (y := (Operator.mk x95.text x95.fix x95.low x95.high x95.left x95.least 4)) (vs := [(.int .i64 4)]) sl_ hidw97 (by omega) (by repeat (first | exact r_out_3 | apply RowN.new | refine RowN.put ?_ (fun hm => by have := RowN.lt r_out_3 _ hm; omega))) e96 sl_ rfl rfl (by first | decide | (simp only [List.length_cons, List.length_nil]; omega)) rfl (fun H106 r107 hf109 ok110 => ?_); have le := hf109.1; try simp only [AH.new_next, AH.put_next, AH.tok_next, AH.use_next] at le
      try refine go_ ?_
      refine hK _ _ ?_; exact ih v_out_3 ids_out_3 M (out_3.set t_80.toNat (Operator.mk x95.text x95.fix x95.low x95.high x95.left x95.least 4)) t_79 (IntKind.wrap .i64 (t_80 + 1)) _ _ _ _ fr_ (by repeat (first | exact hf0 | refine HF.new ?_ | refine HF.tokd ?_ | refine HF.used ?_ | refine HF.put (by first | (right; omega) | (left; simp only [List.mem_cons, true_or, or_true])) ?_ | refine HF.via hf109 nw_out_3 ?_)) sl_ (by repeat (first | exact r107 | apply RowN.new | refine RowN.put ?_ (fun hm => by have := RowN.lt r107 _ hm; omega))) nw_out_3 _ h _ q0
     ·try refine go_ ?_
      refine hK _ _ ?_; exact ih v_out_3 ids_out_3 M out_3 t_79 (IntKind.wrap .i64 (t_80 + 1)) _ _ _ _ fr_ (by repeat (first | exact hf0 | refine HF.new ?_ | refine HF.tokd ?_ | refine HF.used ?_ | refine HF.put (by first | (right; omega) | (left; simp only [List.mem_cons, true_or, or_true])) ?_)) sl_ (by repeat (first | exact r_out_3 | apply RowN.new | refine RowN.put ?_ (fun hm => by have := RowN.lt r_out_3 _ hm; omega))) nw_out_3 _ h _ q0
    ·obtain rfl := som_E h; try refine go_ ?_
     exact q0 _ v_out_3 ids_out_3 _ _ rfl fr_ (by repeat (first | exact hf0 | refine HF.new ?_ | refine HF.tokd ?_ | refine HF.used ?_ | refine HF.put (by first | (right; omega) | (left; simp only [List.mem_cons, true_or, or_true])) ?_)) sl_ (by repeat (first | exact r_out_3 | apply RowN.new | refine RowN.put ?_ (fun hm => by have := RowN.lt r_out_3 _ hm; omega))) nw_out_3
def t_table (k : Nat) : Option (List Operator) :=
  Option.bind (t_table_1 k 4 4 [([126] : Str)]) fun p2 => Option.bind (t_table_1 k 4 15 [([69, 78, 65, 66, 76, 69, 68] : Str), ([85, 78, 67, 72, 65, 78, 71, 69, 68] : Str), ([91, 93] : Str), ([60, 62] : Str)]) fun p4 => Option.bind (t_table_1 k 8 8 [([83, 85, 66, 83, 69, 84] : Str), ([85, 78, 73, 79, 78] : Str)]) fun p6 => Option.bind (t_table_1 k 9 9 [([68, 79, 77, 65, 73, 78] : Str)]) fun p8 => Option.bind (t_table_1 k 12 12 [([45, 46] : Str)]) fun p10 => Option.bind (t_table_2 k 1 1 false [([61, 62] : Str)]) fun p12 => Option.bind (t_table_2 k 2 2 false [([60, 61, 62] : Str), ([126, 62] : Str)]) fun p14 => Option.bind (t_table_2 k 3 3 true [([47, 92] : Str), ([92, 47] : Str)]) fun p16 => Option.bind (t_table_2 k 5 5 false [([61] : Str), ([35] : Str), ([60] : Str), ([60, 61] : Str), ([62] : Str), ([62, 61] : Str), ([92, 105, 110] : Str), ([92, 110, 111, 116, 105, 110] : Str), ([92, 115, 117, 98, 115, 101, 116, 101, 113] : Str), ([92, 115, 113, 115, 117, 98, 115, 101, 116, 101, 113] : Str)]) fun p18 => Option.bind (t_table_2 k 6 6 true [([64, 64] : Str)]) fun p20 => Option.bind (t_table_2 k 7 7 false [([58, 62] : Str)]) fun p22 => Option.bind (t_table_2 k 5 14 true [([92, 99, 100, 111, 116] : Str)]) fun p24 => Option.bind (t_table_2 k 8 8 true [([92, 99, 117, 112] : Str), ([92, 99, 97, 112] : Str)]) fun p26 => Option.bind (t_table_2 k 8 8 false [([92] : Str)]) fun p28 => Option.bind (t_table_2 k 9 9 false [([46, 46] : Str)]) fun p30 => Option.bind (t_table_2 k 10 10 true [([43] : Str), ([40, 43, 41] : Str)]) fun p32 => Option.bind (t_table_2 k 10 11 false [([37] : Str)]) fun p34 => Option.bind (t_table_2 k 10 13 false [([92, 88] : Str)]) fun p36 => Option.bind (t_table_2 k 11 11 true [([45] : Str), ([40, 45, 41] : Str)]) fun p38 => Option.bind (t_table_2 k 13 13 true [([42] : Str)]) fun p40 => Option.bind (t_table_2 k 13 13 false [([92, 100, 105, 118] : Str)]) fun p42 => Option.bind (t_table_2 k 13 13 true [([92, 111] : Str)]) fun p44 => Option.bind (t_table_2 k 14 14 false [([94] : Str)]) fun p46 => Option.bind (t_table_i115_b0 k 0 [p2, p4, p6, p8, p10, p12, p14, p16, p18, p20, p22, p24, p26, p28, p30, p32, p34, p36, p38, p40, p42, p44, p46, [(Operator.mk ([39] : Str) 2 15 15 false 1 1)]] 0) (fun p55 => if 0 < p55 /\ p55 <= 1000000 then Option.bind (t_table_i115_b1 k ([] : List Operator) [p2, p4, p6, p8, p10, p12, p14, p16, p18, p20, p22, p24, p26, p28, p30, p32, p34, p36, p38, p40, p42, p44, p46, [(Operator.mk ([39] : Str) 2 15 15 false 1 1)]] 0) (fun p83 => Option.bind (t_table_b0 k p83 (p83.length : Int) 0) (fun p113 => some p113)) else none)
theorem t_table_c {k : Nat} {r : List Operator} (h : t_table k = some r) : PCall Tryz.prog 65 [] (.isl (r.map Operator.cells) .unk) := by
  refine PCall.of_empty (PuL.mem .nil) (MCall_of_W ok65 (by simp) (W_start ?_)) (pu_sl Operator.pu _); unfold t_table at h; unfold ac65; obtain ⟨p2, e1, h⟩ := bind_E h; try refine go_ ?_
  refine mcall_pure (t_table_1_c e1) ?_; obtain ⟨p4, e3, h⟩ := bind_E h; try refine go_ ?_
  refine mcall_pure (t_table_1_c e3) ?_; obtain ⟨p6, e5, h⟩ := bind_E h; try refine go_ ?_
  refine mcall_pure (t_table_1_c e5) ?_; obtain ⟨p8, e7, h⟩ := bind_E h; try refine go_ ?_
  refine mcall_pure (t_table_1_c e7) ?_; obtain ⟨p10, e9, h⟩ := bind_E h; try refine go_ ?_
  refine mcall_pure (t_table_1_c e9) ?_; obtain ⟨p12, e11, h⟩ := bind_E h; try refine go_ ?_
  refine mcall_pure (t_table_2_c e11) ?_; obtain ⟨p14, e13, h⟩ := bind_E h; try refine go_ ?_
  refine mcall_pure (t_table_2_c e13) ?_; obtain ⟨p16, e15, h⟩ := bind_E h; try refine go_ ?_
  refine mcall_pure (t_table_2_c e15) ?_; obtain ⟨p18, e17, h⟩ := bind_E h; try refine go_ ?_
  refine mcall_pure (t_table_2_c e17) ?_; obtain ⟨p20, e19, h⟩ := bind_E h; try refine go_ ?_
  refine mcall_pure (t_table_2_c e19) ?_; obtain ⟨p22, e21, h⟩ := bind_E h; try refine go_ ?_
  refine mcall_pure (t_table_2_c e21) ?_; obtain ⟨p24, e23, h⟩ := bind_E h; try refine go_ ?_
  refine mcall_pure (t_table_2_c e23) ?_; obtain ⟨p26, e25, h⟩ := bind_E h; try refine go_ ?_
  refine mcall_pure (t_table_2_c e25) ?_; obtain ⟨p28, e27, h⟩ := bind_E h; try refine go_ ?_
  refine mcall_pure (t_table_2_c e27) ?_; obtain ⟨p30, e29, h⟩ := bind_E h; try refine go_ ?_
  refine mcall_pure (t_table_2_c e29) ?_; obtain ⟨p32, e31, h⟩ := bind_E h; try refine go_ ?_
  refine mcall_pure (t_table_2_c e31) ?_; obtain ⟨p34, e33, h⟩ := bind_E h; try refine go_ ?_
  refine mcall_pure (t_table_2_c e33) ?_; obtain ⟨p36, e35, h⟩ := bind_E h; try refine go_ ?_
  refine mcall_pure (t_table_2_c e35) ?_; obtain ⟨p38, e37, h⟩ := bind_E h; try refine go_ ?_
  refine mcall_pure (t_table_2_c e37) ?_; obtain ⟨p40, e39, h⟩ := bind_E h; try refine go_ ?_
  refine mcall_pure (t_table_2_c e39) ?_; obtain ⟨p42, e41, h⟩ := bind_E h; try refine go_ ?_
  refine mcall_pure (t_table_2_c e41) ?_; obtain ⟨p44, e43, h⟩ := bind_E h; try refine go_ ?_
  refine mcall_pure (t_table_2_c e43) ?_; obtain ⟨p46, e45, h⟩ := bind_E h; try refine go_ ?_
  refine mcall_pure (t_table_2_c e45) ?_; try refine go_ ?_
  refine MCall_of_W ok115 (by simp) (W_start ?_); unfold ac115; try refine go_ ?_
  obtain ⟨o53, h54, h⟩ := bind_E h; refine t_table_i115_b0_W k 0 [p2, p4, p6, p8, p10, p12, p14, p16, p18, p20, p22, p24, p26, p28, p30, p32, p34, p36, p38, p40, p42, p44, p46, [(Operator.mk ([39] : Str) 2 15 15 false 1 1)]] 0 .exact _ _ _ (Fr.refl _ _) sl_ _ h54 _ ?_
  ·rintro p55 σ' eo fr56 s59; rw [eo] at h; have s60 : σ' 0 = (.isl ([p2, p4, p6, p8, p10, p12, p14, p16, p18, p20, p22, p24, p26, p28, p30, p32, p34, p36, p38, p40, p42, p44, p46, [(Operator.mk ([39] : Str) 2 15 15 false 1 1)]].map (slL Operator.cells)) .exact) := (fr56 0 (by decide)).trans sl_; obtain ⟨e61, h⟩ := if_E h; try refine go_ ?_
   refine MC_row (f := Operator.cells) (xs := ([] : List Operator)) (grow167_c p55 e61) (fun v62 ids63 H64 r65 nw66 hf67 ok68 => ?_); have le := hf67.1; try simp only [AH.new_next, AH.put_next, AH.tok_next, AH.use_next] at le
   try refine go_ ?_
   obtain ⟨o81, h82, h⟩ := bind_E h; refine t_table_i115_b1_W k v62 ids63 (ids63 ++ []) ([] : List Operator) [p2, p4, p6, p8, p10, p12, p14, p16, p18, p20, p22, p24, p26, p28, p30, p32, p34, p36, p38, p40, p42, p44, p46, [(Operator.mk ([39] : Str) 2 15 15 false 1 1)]] 0 .exact _ _ _ _ (Fr.refl _ _) (HF.refl _ _) sl_ (by repeat (first | exact r65 | apply RowN.new | refine RowN.put ?_ (fun hm => by have := RowN.lt r65 _ hm; omega))) (fun i hi => Or.inl (by simp only [List.mem_append, List.mem_cons, hi, true_or, or_true])) _ h82 _ ?_
   ·rintro p83 v87 ids88 σ' H86 eo fr84 hf85 s91 r89 nw90; rw [eo] at h; have le := hf85.1; try simp only [AH.new_next, AH.put_next, AH.tok_next, AH.use_next] at le
    have w92 := RowN.lenv r89; try refine go_ ?_
    obtain ⟨o111, h112, h⟩ := bind_E h; refine t_table_b0_W k v87 ids88 (ids88 ++ []) p83 (p83.length : Int) 0 _ _ _ _ (Fr.refl _ _) (HF.refl _ _) sl_ (by repeat (first | exact r89 | apply RowN.new | refine RowN.put ?_ (fun hm => by have := RowN.lt r89 _ hm; omega))) (fun i hi => Or.inl (by simp only [List.mem_append, List.mem_cons, hi, true_or, or_true])) _ h112 _ ?_
    ·rintro p113 v117 ids118 σ' H116 eo fr114 hf115 s121 r119 nw120; rw [eo] at h; have le := hf115.1; try simp only [AH.new_next, AH.put_next, AH.tok_next, AH.use_next] at le
     obtain rfl := som_E h; try refine go_ ?_
     exact (RowN.fz Operator.pu (by repeat (first | exact r119 | apply RowN.new | refine RowN.put ?_ (fun hm => by have := RowN.lt r119 _ hm; omega))))
end Go.VL
end
section
namespace Go.VL
open Go.Proofs Go.RowKit
def tabL : List Operator := (t_table 100).getD []
theorem tabL_some : t_table 100 = some tabL := by
  have h : (t_table 100).isSome = true := by kernel_rfl
  rw [tabL]; cases h1 : t_table 100 with
  | none => rw [h1] at h; cases h
  | some r => rfl
theorem tabL_c : PCall Tryz.prog 65 [] (.isl (tabL.map Operator.cells) .unk) := t_table_c tabL_some
end Go.VL
end
section
set_option maxRecDepth 8000
set_option maxHeartbeats 4000000
namespace Go.VL
open Go.Proofs
def t_operatorOf (k : Nat) (text_0 : Str) : Option (Operator × Bool) :=
  Option.bind (g_IndexFunc_api_Operator_api_Operator_at112 k tabL text_0) fun p2 => cond (decide (p2 < 0)) (some ((Operator.mk [] 0 0 0 false 0 0), false)) (if 0 <= p2 then Option.bind (tabL[p2.toNat]?) fun x5 => some (x5, true) else none)
theorem t_operatorOf_c {k : Nat} {text_0 : Str} {r : Operator × Bool} (h : t_operatorOf k text_0 = some r) : PCall Tryz.prog 63 [(.str text_0)] (.tup [(.agg (Operator.cells r.1)), (.bool r.2)]) := by
  refine PCall.of_empty (PuL.mem (.cons (.str _) .nil)) (MCall_of_W ok63 (by simp) (W_start ?_)) (.tup _ (PuL.mem (.cons (.agg _ (Operator.pu _)) (.cons (.bool _) .nil)))); unfold t_operatorOf at h; unfold ac63; try refine gos_ ?_
  refine mcall_pure (tabL_c ) ?_; obtain ⟨p2, e1, h⟩ := bind_E h; try refine gos_ ?_
  refine mcall_frz (g_IndexFunc_api_Operator_api_Operator_at112_c e1) (.cons (fz_sl Operator.pu _ _) (.cons (fz_fn (.cons (fz_ref sls_ (.cons (.pure _ (.str _)) .nil)) .nil)) .nil)) (.cons (pu_sl Operator.pu _) (.cons (.fn _ _ _ (PuL.mem .nil) (PuL.mem (.cons (.iptr _ _ (PuL.mem (.cons (.str _) .nil))) .nil))) .nil)) (.int _ _) ?_; rcases cond_E h with ⟨e3, h⟩ | ⟨e3, h⟩
  ·obtain rfl := som_E h; try refine gos_ ?_
   exact (fz_tup (.cons (fz_agg (.cons (.pure _ (.str _)) (.cons (.pure _ (.int _ _)) (.cons (.pure _ (.int _ _)) (.cons (.pure _ (.int _ _)) (.cons (.pure _ (.bool _)) (.cons (.pure _ (.int _ _)) (.cons (.pure _ (.int _ _)) .nil)))))))) (.cons (.pure _ (.bool _)) .nil)))
  ·obtain ⟨e4, h⟩ := if_E h; obtain ⟨x5, e6, h⟩ := bind_E h; obtain rfl := som_E h; try refine gos_ ?_
   exact (fz_tup (.cons (fz_agg (.cons (.pure _ (.str _)) (.cons (.pure _ (.int _ _)) (.cons (.pure _ (.int _ _)) (.cons (.pure _ (.int _ _)) (.cons (.pure _ (.bool _)) (.cons (.pure _ (.int _ _)) (.cons (.pure _ (.int _ _)) .nil)))))))) (.cons (.pure _ (.bool _)) .nil)))
end Go.VL
end
section
set_option maxRecDepth 8000
set_option maxHeartbeats 4000000
namespace Go.VL
open Go.Proofs
def g_Mul (x_0 : Int) (y_1 : Int) : Option (Int × Int) :=
  if (0 <= x_0 /\ x_0 < 18446744073709551616) /\ (0 <= y_1 /\ y_1 < 18446744073709551616) then some ((mul64 x_0 y_1).1, (mul64 x_0 y_1).2) else none
theorem g_Mul_c {x_0 : Int} {y_1 : Int} {r : Int × Int} (h : g_Mul x_0 y_1 = some r) : PCall Tryz.prog 147 [(.int .u64 x_0), (.int .u64 y_1)] (.tup [(.int .u64 r.1), (.int .u64 r.2)]) := by
  refine PCall.of_empty (PuL.mem (.cons (.int _ _) (.cons (.int _ _) .nil))) (MCall_of_W ok147 (by simp) (W_start ?_)) (.tup _ (PuL.mem (.cons (.int _ _) (.cons (.int _ _) .nil)))); unfold g_Mul at h; unfold ac147; obtain ⟨e1, h⟩ := if_E h; try refine gos_ ?_
  refine mcall_pure (mul64_c x_0 y_1 (by assumption)) ?_; obtain rfl := som_E h; try refine gos_ ?_
  exact (fz_tup (.cons (.pure _ (.int _ _)) (.cons (.pure _ (.int _ _)) .nil)))
end Go.VL
end
section
namespace Go.VL
open Go.Proofs Go.RowKit
theorem WPar_pure {P : Program} {K : (Nat -> PV) -> AH -> Prop} {σ : Nat -> PV} {H : AH} {d : Option Nat} {k : RK} {l : List (AOp × Bool)} (p : PV) (h : ∀ H', rop k σ H' = some p)
    (hn : WPar P (fun _ => True) l K (upd σ d p) H) : WPar P (fun _ => True) ((⟨d, .r k, none⟩, false) :: l) K σ H := by
  unfold WPar; refine .inr ⟨trivial, p, fun H' _ => ?_, hn⟩; show (match rop k σ H' with | some q => (q = p /\ H' = H') | none => False)
  rw [h H']; exact ⟨rfl, rfl⟩
theorem flat_one : ∀ l : List PV, (l.map fun c => [c]).flatten = l
  | [] => rfl
  | a :: l => by rw [List.map_cons, List.flatten_cons, flat_one l]; rfl
theorem chunks_one (l rest : List PV) : chunks 1 l.length (l ++ rest) = l.map fun c => [c] := by
  have h := chunks_flat' (sz := 1) (l.map fun c => [c]) rest (by simp); rw [List.length_map, flat_one] at h; exact h
theorem flat_rep1 (x : PV) : ∀ m, (List.replicate m [x]).flatten = List.replicate m x
  | 0 => rfl
  | m + 1 => by rw [List.replicate_succ, List.flatten_cons, flat_rep1 x m]; rfl
theorem loop94 (x : Int) (id n : Nat) (H0 : AH) (Q : Post) (hn : n <= 1000000)
    (hx : ∀ σ' H', σ' 7 = .msl id 0 n n 1 -> H'.obj id = some (List.replicate n (.int .i64 x)) -> H'.next = H0.next -> (∀ i, i ≠ id -> H'.obj i = H0.obj i) -> (∀ k, H'.live k = H0.live k) -> Q (.exit 0) σ' H') :
    ∀ (d m : Nat) (σ : Nat -> PV) (H : AH) (rest : List PV), n - m <= d -> m <= n -> (m = 0 -> n = 0) -> σ 7 = .msl id 0 n n 1 -> σ 8 = .int .i64 m -> H.obj id = some (List.replicate m (.int .i64 x) ++ rest) -> rest.length = n - m ->
      H.next = H0.next -> (∀ i, i ≠ id -> H.obj i = H0.obj i) -> (∀ k, H.live k = H0.live k) -> W Tryz.prog (.loop ac94_b0) Q σ H := by
  intro d
  induction d with
  | zero =>
    intro m σ H rest hd hm h0 h7 h8 ho hr h1 h2 h3; have e : m = n := by omega
    subst e; have c1 : decide ((m : Int) < (m : Int)) = false := decide_eq_false (by omega); refine W_loopK (fun K hK => W_start ?_); unfold ac94_b0; simp -implicitDefEqProofs only [go_sem, ↓reduceIte, Nat.reduceEqDiff, h7, h8, c1]; have hr0 : rest = [] := List.eq_nil_of_length_eq_zero (by omega); subst hr0; refine hx _ _ ?_ (by rw [ho, List.append_nil]) h1 h2 h3; simp only [upd_some, Nat.reduceEqDiff, ↓reduceIte, h7]
  | succ d ih =>
    intro m σ H rest hd hm h0 h7 h8 ho hr h1 h2 h3; by_cases hmn : m = n
    · exact ih m σ H rest (by omega) hm h0 h7 h8 ho hr h1 h2 h3
    have c1 : decide ((m : Int) < (n : Int)) = true := decide_eq_true (by omega); refine W_loopK (fun K hK => W_start ?_); unfold ac94_b0; simp -implicitDefEqProofs only [go_sem, ↓reduceIte, Nat.reduceEqDiff, h7, h8, c1]; refine ⟨fun _ => True, trivial, ?_⟩; refine WPar_pure (.int .i64 m) (fun H' => by simp [rop, AE.ev, upd, h7, h8]) ?_; refine WPar_pure (.msl id 0 n n 1) (fun H' => by simp [rop, AE.ev, upd, h7, h8]) ?_; refine WPar_pure (.int .i64 m) (fun H' => by simp [rop, AE.ev, upd, h7, h8]) ?_; refine WPar_pure (.msl id m (n - m) (n - m) 1) (fun H' => by simp [rop, AE.ev, upd, slcPV, natOf, h7, h8]; omega) ?_; refine WPar_pure (.msl id 0 n n 1) (fun H' => by simp [rop, AE.ev, upd, h7, h8]) ?_; refine WPar_pure (.int .i64 m) (fun H' => by simp [rop, AE.ev, upd, h7, h8]) ?_; refine WPar_pure (.msl id 0 m n 1) (fun H' => by simp [rop, AE.ev, upd, slcPV, natOf, h7, h8]; omega) ?_; have hch : chunks 1 m (List.replicate m (.int .i64 x) ++ rest) = List.replicate m [.int .i64 x] := by
      have h := chunks_one (List.replicate m (.int .i64 x)) rest; rw [List.length_replicate, List.map_replicate] at h; exact h
    unfold WPar; refine .inr ⟨trivial, .int .i64 (min m (n - m) : Nat), H.put id (List.replicate (m + min m (n - m)) (.int .i64 x) ++ rest.drop (min m (n - m))), ?_, trivial, ?_⟩
    · have hy : rowOf 1 H (PV.msl id 0 m n 1) = some (List.replicate m [.int .i64 x]) := by
        have hl : 0 + m * 1 <= (List.replicate m (PV.int .i64 x) ++ rest).length := by rw [List.length_append, List.length_replicate]; omega
        simp only [rowOf, ho]; rw [if_pos ⟨trivial, hl⟩, List.drop_zero, hch]
      have hsz : szOk 1 (List.replicate m [PV.int .i64 x]) := fun cs hcs => by
        rw [(List.mem_replicate.1 hcs).2]; exact ⟨rfl, fun c hc => by rw [List.mem_singleton.1 hc]; rfl⟩
      have hle : m + (n - m) * 1 <= (List.replicate m (PV.int .i64 x) ++ rest).length := by rw [List.length_append, List.length_replicate]; omega
      have hput : putCells (List.replicate m (PV.int .i64 x) ++ rest) m ((List.replicate m [PV.int .i64 x]).take (n - m)).flatten = List.replicate (m + min m (n - m)) (.int .i64 x) ++ rest.drop (min m (n - m)) := by
        rw [List.take_replicate, flat_rep1]; unfold putCells; rw [List.length_replicate]; have e1 : (List.replicate m (PV.int .i64 x) ++ rest).take m = List.replicate m (PV.int .i64 x) := by
          rw [List.take_append_of_le_length (by rw [List.length_replicate]; omega), List.take_of_length_le (by rw [List.length_replicate]; omega)]
        have e2 : (List.replicate m (PV.int .i64 x) ++ rest).drop (m + min (n - m) m) = rest.drop (min m (n - m)) := by
          rw [List.drop_append, List.length_replicate, List.drop_eq_nil_of_le (by rw [List.length_replicate]; omega), List.nil_append]; congr 1
          omega
        rw [e1, e2, List.replicate_append_replicate, Nat.min_comm m]
      simp only [WOp, nop, AE.ev, upd_some, Nat.reduceEqDiff, ↓reduceIte, hy]; simp only [ho]; rw [if_pos ⟨trivial, hsz, hle⟩]; refine ⟨?_, by rw [hput]⟩; rw [List.length_replicate]
    · have hm2 : (m : Int) + ((min m (n - m) : Nat) : Int) = ((m + min m (n - m) : Nat) : Int) := by omega
      have hw : IntKind.wrap .i64 ((m : Int) + ((min m (n - m) : Nat) : Int)) = ((m + min m (n - m) : Nat) : Int) := by
        rw [hm2]; exact IntWalk.i64_in _ (by omega)
      unfold WPar; refine WO_start ?_; simp -implicitDefEqProofs only [go_sem, ↓reduceIte, Nat.reduceEqDiff, h7, h8, hw]; refine hK _ _ (ih (m + min m (n - m)) _ _ (rest.drop (min m (n - m))) (by omega) (by omega) (by omega) ?_ ?_ ?_ (by rw [List.length_drop]; omega) h1 ?_ h3)
      · simp only [upd_some, Nat.reduceEqDiff, ↓reduceIte, h7]
      · simp only [upd_some, Nat.reduceEqDiff, ↓reduceIte]
      · show (if id = id then some _ else _) = _
        rw [if_pos rfl]
      · intro i hi; show (if i = id then some _ else _) = _
        rw [if_neg hi]; exact h2 i hi
section
variable {P : Program} {Q : Post} {σ : Nat -> PV} {s : List Fm} {H : AH}
theorem WO_mk1 {d : Option Nat} {x y : AE} {l : List AOp} {k k' : IntKind} {n : Nat} (hx : x.ev σ = .int k n) (hy : y.ev σ = .int k' n) (hb : n <= 1000000)
    (h : WO P l s Q (upd σ d (.msl H.next 0 n n 1)) (H.new (List.replicate n (.int .i64 0)))) : WO P (⟨d, .d (.mksl 1 8 [.int .i64 0] x y), none⟩ :: l) s Q σ H := by
  show WD P (dop (.mksl 1 8 [.int .i64 0] x y) σ H) d l s Q σ
  simp only [dop, hx, hy]; rw [if_pos ⟨by omega, by omega, by omega, by omega, rfl, by decide⟩]; rw [Int.toNat_natCast, flat_rep1]; exact h
theorem WO_copy {d : Option Nat} {x y : AE} {l : List AOp} {id off len cap sz : Nat} {fs : List (List PV)} {cs : List PV} (hx : x.ev σ = .msl id off len cap sz) (hy : rowOf sz H (y.ev σ) = some fs) (ho : H.obj id = some cs)
    (hsz : szOk sz fs) (hle : off + len * sz <= cs.length)
    (h : WO P l s Q (upd σ d (.int .i64 (min fs.length len : Nat))) (H.put id (putCells cs off (fs.take len).flatten))) : WO P (⟨d, .n (.copy sz x y), none⟩ :: l) s Q σ H := by
  show WOps P _ _ σ H
  rw [WOps_n]; simp only [nop, hx, hy, ho]; rw [if_pos ⟨trivial, hsz, hle⟩]; exact h
end
theorem rep94 (x : Int) (n : Int) (hn : 0 <= n /\ n <= 1000000) : RowMk Tryz.prog 94 [.isl [[.int .i64 x]] .exact, .int .i64 n] intL 1 (List.replicate n.toNat x) := by
  intro H; obtain ⟨n, rfl⟩ : ∃ k : Nat, n = k := ⟨n.toNat, by omega⟩; refine MCall_of_W ok94 (by simp) (W_start ?_); unfold ac94; have c1 : decide ((n : Int) < 0) = false := decide_eq_false (by omega); have c2 : IntKind.wrap .u64 1 = 1 := by decide
  have c3 : IntKind.wrap .u64 (n : Int) = n := IntWalk.u64_in _ (by omega); have c4 : IntKind.wrap .i64 (n : Int) = n := IntWalk.i64_in _ (by omega); have hm : g_Mul 1 n = some ((0 : Int), (n : Int)) := by
    unfold g_Mul mul64; rw [if_pos ⟨⟨by omega, by omega⟩, by omega, by omega⟩]; have e1 : ((1 : Int).toNat * ((n : Nat) : Int).toNat / 18446744073709551616 : Nat) = 0 := by
      rw [Int.toNat_natCast]; show (1 * n) / _ = 0; omega
    have e2 : ((1 : Int).toNat * ((n : Nat) : Int).toNat % 18446744073709551616 : Nat) = n := by
      rw [Int.toNat_natCast]; show (1 * n) % _ = n; omega
    rw [e1, e2]; rfl
  have hc := g_Mul_c hm; have d1 : decide ((n : Int) > 9223372036854775807) = false := decide_eq_false (by omega); unfold ac94_j0 ac94_j1; simp -implicitDefEqProofs only [go_sem, ↓reduceIte, Nat.reduceEqDiff, Nat.reduceAdd, List.length_cons, List.length_nil, c1, c2, c3, c4, d1]; refine MCall.mono (hc H) fun v H' hv => ?_; obtain ⟨rfl, rfl⟩ := hv; have d0 : decide ((0 : Int) > 0) = false := by decide
  simp -implicitDefEqProofs only [go_sem, ↓reduceIte, Nat.reduceEqDiff, Nat.reduceAdd, List.length_cons, List.length_nil, c1, c2, c3, c4, d0, d1]; refine WO_mk1 (k := .i64) (k' := .i64) (n := n) (by simp only [go_sem, ↓reduceIte, Nat.reduceEqDiff]) (by simp only [go_sem, ↓reduceIte, Nat.reduceEqDiff]) (by omega) ?_; have hob : (H'.new (List.replicate n (PV.int .i64 0))).obj H'.next = some (List.replicate n (PV.int .i64 0)) := by
    show (if H'.next = H'.next then some _ else _) = _
    rw [if_pos rfl]
  simp -implicitDefEqProofs only [go_sem, ↓reduceIte, Nat.reduceEqDiff, Nat.reduceAdd]
  refine WO_copy (id := H'.next) (off := 0) (len := n) (cap := n) (fs := [[.int .i64 x]]) (cs := List.replicate n (.int .i64 0)) (by simp only [go_sem, ↓reduceIte, Nat.reduceEqDiff]) (by simp only [go_sem, ↓reduceIte, Nat.reduceEqDiff]; rfl) hob
    (by intro cs hcs; rw [List.mem_singleton.1 hcs]; exact ⟨rfl, fun c hc => by rw [List.mem_singleton.1 hc]; rfl⟩) (by rw [List.length_replicate]; omega) ?_
  have hput : putCells (List.replicate n (PV.int .i64 0)) 0 (([[PV.int .i64 x]] : List (List PV)).take n).flatten = List.replicate (min 1 n) (.int .i64 x) ++ List.replicate (n - min 1 n) (.int .i64 0) := by
    cases n with
    | zero => rfl
    | succ n =>
      have e : min 1 (n + 1) = 1 := by omega
      rw [e, List.take_of_length_le (by simp)]; simp [putCells, List.replicate_succ]
  rw [hput]; have e1 : (min ([[PV.int .i64 x]] : List (List PV)).length n : Nat) = min 1 n := rfl; rw [e1]; simp -implicitDefEqProofs only [go_sem, ↓reduceIte, Nat.reduceEqDiff, Nat.reduceAdd]; have hput2 : ∀ cs : List PV, (((H'.new (List.replicate n (PV.int .i64 0))).put H'.next cs).obj H'.next) = some cs := fun cs => by
    show (if H'.next = H'.next then some _ else _) = _
    rw [if_pos rfl]
  refine loop94 x H'.next n ((H'.new (List.replicate n (PV.int .i64 0)))) _ (by omega) (fun σ' H2 k7 ko kn kob kl => ?_) n (min 1 n) _ _ (List.replicate (n - min 1 n) (.int .i64 0)) (by omega) (by omega) (by omega) ?_ ?_ (hput2 _) (by rw [List.length_replicate]) rfl
    (fun i hi => ?_) (fun k => rfl)
  · show WE Tryz.prog (.exit 0) _ _ σ' H2
    simp -implicitDefEqProofs only [go_sem, ↓reduceIte, Nat.reduceEqDiff, Nat.reduceAdd, k7]; refine ⟨[H'.next], .inr ⟨H'.next, n, [], rfl, by rw [List.length_replicate], by rw [List.length_replicate]; omega, by rw [kn]; exact Nat.lt_succ_self _, ?_, ?_⟩, fun i hi => .inr (by rw [List.mem_singleton.1 hi]; exact Nat.le_refl _), ⟨by rw [kn]; exact Nat.le_succ _, fun i hi _ => ?_⟩, fun c3 hc => ?_⟩
    · rw [ko, List.append_nil, List.map_replicate]; exact congrArg some (flat_rep1 (PV.int .i64 x) n).symm
    · rw [List.length_replicate]; simp
    · rw [kob i (by omega)]; show (if i = H'.next then some _ else _) = _
      rw [if_neg (by omega)]
    · cases c3 with
      | unk => exact hc
      | tok t => exact ⟨by rw [kl]; exact hc.1, by rw [kn]; exact Nat.lt_succ_of_lt hc.2⟩
      | nil => trivial
      | exact => trivial
  · simp only [upd_some, Nat.reduceEqDiff, ↓reduceIte]
  · simp only [upd_some, Nat.reduceEqDiff, ↓reduceIte]
  · show (if i = H'.next then some _ else _) = _
    rw [if_neg hi]
def repOne (l : List Int) (n : Int) : List Int := List.replicate n.toNat (l.headD 0)
theorem rep94c (l : List Int) (n : Int) (h : l.length = 1 /\ 0 <= n /\ n <= 1000000) : RowMk Tryz.prog 94 [.isl (l.map intL) .exact, .int .i64 n] intL 1 (repOne l n) := by
  match l, h with
  | [x], h => exact rep94 x n h.2
end Go.VL
end
section
set_option maxRecDepth 8000
set_option maxHeartbeats 4000000
namespace Go.VL
open Go.Proofs
def t_parents_b0 : Nat -> (List Int) -> (List Int) -> Int -> (List Int) -> Int -> Int -> Option (((List Int) × (List Int)))
  | 0, _, _, _, _, _, _ => none
  | k + 1, up_4, place_5, i_6, t_25, t_26, t_27 =>
    cond (decide (t_27 < t_26)) (if 0 <= t_27 then Option.bind (t_25[t_27.toNat]?) fun x21 => if 0 <= x21 then Option.bind (up_4[x21.toNat]?) fun x24 => Option.bind (place_5[x21.toNat]?) fun x41 => t_parents_b0 k (up_4.set x21.toNat i_6) (place_5.set x21.toNat t_27) i_6 t_25 t_26 (IntKind.wrap .i64 (t_27 + 1)) else none else none) (some ((up_4, place_5)))
def t_parents_b0l : List Nat := [8, 9] ++ List.range' 27 14
theorem t_parents_b0_W : ∀ (k : Nat) (v_up_4 : PV) (ids_up_4 : List Nat) (v_place_5 : PV) (ids_place_5 : List Nat) (M : List Nat) (up_4 : List Int) (place_5 : List Int) (i_6 : Int) (t_25 : List Int) (t_26 : Int) (t_27 : Int) (σ0 σ : Nat -> PV) (H0 H : AH) (f0 : Fr t_parents_b0l σ0 σ) (hf0 : HF M H0 H) (sl : σ 4 = v_up_4 /\ σ 5 = v_place_5 /\ σ 6 = (.int .i64 i_6) /\ σ 25 = (.isl (t_25.map intL) .unk) /\ σ 26 = (.int .i64 t_26) /\ σ 27 = (.int .i64 t_27)) (r_up_4 : RowN H intL 1 up_4 v_up_4 ids_up_4) (nw_up_4 : Nw H0 M ids_up_4) (r_place_5 : RowN H intL 1 place_5 v_place_5 ids_place_5) (nw_place_5 : Nw H0 M ids_place_5) (dj_up_4_place_5 : Dj ids_up_4 ids_place_5) (o : ((List Int) × (List Int))) (h : t_parents_b0 k up_4 place_5 i_6 t_25 t_26 t_27 = some o) (Q : Post) (q0 : ∀ (p : (List Int) × (List Int)) (v0 : PV) (ids0 : List Nat) (v1 : PV) (ids1 : List Nat) (σ' : Nat -> PV) (H' : AH), o = p -> Fr t_parents_b0l σ0 σ' -> HF M H0 H' -> (σ' 4 = v0 /\ σ' 5 = v1) -> RowN H' intL 1 p.1 v0 ids0 -> Nw H0 M ids0 -> RowN H' intL 1 p.2 v1 ids1 -> Nw H0 M ids1 -> Dj ids0 ids1 -> Q (.exit 2) σ' H') , W Tryz.prog (.loop ac50_b0) Q σ H := by
  intro k
  induction k with
  | zero => intro v_up_4 ids_up_4 v_place_5 ids_place_5 M up_4 place_5 i_6 t_25 t_26 t_27 σ0 σ H0 H f0 hf0 sl r_up_4 nw_up_4 r_place_5 nw_place_5 dj_up_4_place_5 o h Q q0; simp only [t_parents_b0, reduceCtorEq] at h
  | succ k ih =>
    intro v_up_4 ids_up_4 v_place_5 ids_place_5 M up_4 place_5 i_6 t_25 t_26 t_27 σ0 σ H0 H f0 hf0 sl r_up_4 nw_up_4 r_place_5 nw_place_5 dj_up_4_place_5 o h Q q0; obtain ⟨s4, s5, s6, s25, s26, s27⟩ := sl; have hle0 := hf0.1; unfold t_parents_b0 at h; refine W_loopK (fun K hK => W_start ?_); unfold ac50_b0; rcases cond_E h with ⟨e19, h⟩ | ⟨e19, h⟩
    ·obtain ⟨e20, h⟩ := if_E h; obtain ⟨x21, e22, h⟩ := bind_E h; obtain ⟨e23, h⟩ := if_E h; obtain ⟨x24, e25, h⟩ := bind_E h; obtain ⟨w26, w27, hidw26, hil, w28, hC, hL, hD, hI⟩ := RowN.content r_up_4 e25; have w29 := ne_next hil; have w30 := ne_add hil; have w31 : idxPV 1 v_up_4 (.int .i64 x21) = some (.ref w26 (x21.toNat)) := by simpa using hI .i64 x21 (by first | omega | decide) (by first | rfl | omega)
     have w26c0 : w27[x21.toNat]? = some (.int .i64 x24) := by simpa using hC 0 _ rfl
     clear hC hL hD hI; try refine go_ ?_
     refine WO_rowset (f := intL) (id := w26) (o := x21.toNat) (i := x21.toNat) (j := 0) (a := x24) (y := i_6) (vs := [(.int .i64 i_6)]) sl_ hidw26 (by omega) (by repeat (first | exact r_up_4 | apply RowN.new | refine RowN.put ?_ (fun hm => by have := RowN.lt r_up_4 _ hm; omega))) e25 sl_ rfl rfl (by first | decide | (simp only [List.length_cons, List.length_nil]; omega)) rfl (fun H34 r35 hf37 ok38 => ?_); have le := hf37.1; try simp only [AH.new_next, AH.put_next, AH.tok_next, AH.use_next] at le
     have r39 := RowN.hf (by repeat (first | exact r_place_5 | apply RowN.new | refine RowN.put ?_ (fun hm => by have := RowN.lt r_place_5 _ hm; omega))) hf37 (Dj.symm dj_up_4_place_5); obtain ⟨x41, e42, h⟩ := bind_E h; obtain ⟨w43, w44, hidw43, hil, w45, hC, hL, hD, hI⟩ := RowN.content r39 e42; have w46 := ne_next hil; have w47 := ne_add hil; have w48 : idxPV 1 v_place_5 (.int .i64 x21) = some (.ref w43 (x21.toNat)) := by simpa using hI .i64 x21 (by first | omega | decide) (by first | rfl | omega)
     have w43c0 : w44[x21.toNat]? = some (.int .i64 x41) := by simpa using hC 0 _ rfl
     clear hC hL hD hI; try refine go_ ?_
     refine WO_rowset (f := intL) (id := w43) (o := x21.toNat) (i := x21.toNat) (j := 0) (a := x41) (y := t_27) (vs := [(.int .i64 t_27)]) sl_ hidw43 (by omega) (by repeat (first | exact r39 | apply RowN.new | refine RowN.put ?_ (fun hm => by have := RowN.lt r39 _ hm; omega))) e42 sl_ rfl rfl (by first | decide | (simp only [List.length_cons, List.length_nil]; omega)) rfl (fun H51 r52 hf54 ok55 => ?_); have le := hf54.1; try simp only [AH.new_next, AH.put_next, AH.tok_next, AH.use_next] at le
     have r56 := RowN.hf (by repeat (first | exact r35 | apply RowN.new | refine RowN.put ?_ (fun hm => by have := RowN.lt r35 _ hm; omega))) hf54 dj_up_4_place_5; try refine go_ ?_
     refine hK _ _ ?_; exact ih v_up_4 ids_up_4 v_place_5 ids_place_5 M (up_4.set x21.toNat i_6) (place_5.set x21.toNat t_27) i_6 t_25 t_26 (IntKind.wrap .i64 (t_27 + 1)) _ _ _ _ fr_ (by repeat (first | exact hf0 | refine HF.new ?_ | refine HF.tokd ?_ | refine HF.used ?_ | refine HF.put (by first | (right; omega) | (left; simp only [List.mem_cons, true_or, or_true])) ?_ | refine HF.via hf37 nw_up_4 ?_ | refine HF.via hf54 nw_place_5 ?_)) sl_ (by repeat (first | exact r56 | apply RowN.new | refine RowN.put ?_ (fun hm => by have := RowN.lt r56 _ hm; omega))) nw_up_4 (by repeat (first | exact r52 | apply RowN.new | refine RowN.put ?_ (fun hm => by have := RowN.lt r52 _ hm; omega))) nw_place_5 dj_up_4_place_5 _ h _ q0
    ·obtain rfl := som_E h; try refine go_ ?_
     exact q0 _ v_up_4 ids_up_4 v_place_5 ids_place_5 _ _ rfl fr_ (by repeat (first | exact hf0 | refine HF.new ?_ | refine HF.tokd ?_ | refine HF.used ?_ | refine HF.put (by first | (right; omega) | (left; simp only [List.mem_cons, true_or, or_true])) ?_)) sl_ (by repeat (first | exact r_up_4 | apply RowN.new | refine RowN.put ?_ (fun hm => by have := RowN.lt r_up_4 _ hm; omega))) nw_up_4 (by repeat (first | exact r_place_5 | apply RowN.new | refine RowN.put ?_ (fun hm => by have := RowN.lt r_place_5 _ hm; omega))) nw_place_5 dj_up_4_place_5
def t_parents_b1 : Nat -> (List Int) -> (List Int) -> (List Nd) -> Int -> Int -> Option (((List Int) × (List Int)))
  | 0, _, _, _, _, _ => none
  | k + 1, up_4, place_5, t_17, t_18, t_19 =>
    cond (decide (t_19 < t_18)) (if 0 <= t_19 then Option.bind (t_17[t_19.toNat]?) fun x17 => Option.bind (t_parents_b0 k up_4 place_5 t_19 x17.args (x17.args.length : Int) 0) (fun p60 => t_parents_b1 k p60.1 p60.2 t_17 t_18 (IntKind.wrap .i64 (t_19 + 1))) else none) (some ((up_4, place_5)))
def t_parents_b1l : List Nat := [6, 7, 8, 9] ++ List.range' 19 23
theorem t_parents_b1_W : ∀ (k : Nat) (v_up_4 : PV) (ids_up_4 : List Nat) (v_place_5 : PV) (ids_place_5 : List Nat) (M : List Nat) (up_4 : List Int) (place_5 : List Int) (t_17 : List Nd) (t_18 : Int) (t_19 : Int) (σ0 σ : Nat -> PV) (H0 H : AH) (f0 : Fr t_parents_b1l σ0 σ) (hf0 : HF M H0 H) (sl : σ 4 = v_up_4 /\ σ 5 = v_place_5 /\ σ 17 = (.isl (t_17.map Nd.cells) .unk) /\ σ 18 = (.int .i64 t_18) /\ σ 19 = (.int .i64 t_19)) (r_up_4 : RowN H intL 1 up_4 v_up_4 ids_up_4) (nw_up_4 : Nw H0 M ids_up_4) (r_place_5 : RowN H intL 1 place_5 v_place_5 ids_place_5) (nw_place_5 : Nw H0 M ids_place_5) (dj_up_4_place_5 : Dj ids_up_4 ids_place_5) (o : ((List Int) × (List Int))) (h : t_parents_b1 k up_4 place_5 t_17 t_18 t_19 = some o) (Q : Post) (q0 : ∀ (p : (List Int) × (List Int)) (v0 : PV) (ids0 : List Nat) (v1 : PV) (ids1 : List Nat) (σ' : Nat -> PV) (H' : AH), o = p -> Fr t_parents_b1l σ0 σ' -> HF M H0 H' -> (σ' 4 = v0 /\ σ' 5 = v1) -> RowN H' intL 1 p.1 v0 ids0 -> Nw H0 M ids0 -> RowN H' intL 1 p.2 v1 ids1 -> Nw H0 M ids1 -> Dj ids0 ids1 -> Q (.exit 0) σ' H') , W Tryz.prog (.loop ac50_b1) Q σ H := by
  intro k
  induction k with
  | zero => intro v_up_4 ids_up_4 v_place_5 ids_place_5 M up_4 place_5 t_17 t_18 t_19 σ0 σ H0 H f0 hf0 sl r_up_4 nw_up_4 r_place_5 nw_place_5 dj_up_4_place_5 o h Q q0; simp only [t_parents_b1, reduceCtorEq] at h
  | succ k ih =>
    intro v_up_4 ids_up_4 v_place_5 ids_place_5 M up_4 place_5 t_17 t_18 t_19 σ0 σ H0 H f0 hf0 sl r_up_4 nw_up_4 r_place_5 nw_place_5 dj_up_4_place_5 o h Q q0; obtain ⟨s4, s5, s17, s18, s19⟩ := sl; have hle0 := hf0.1; unfold t_parents_b1 at h; refine W_loopK (fun K hK => W_start ?_); unfold ac50_b1; rcases cond_E h with ⟨e15, h⟩ | ⟨e15, h⟩
    ·obtain ⟨e16, h⟩ := if_E h; obtain ⟨x17, e18, h⟩ := bind_E h; try refine go_ ?_
     rw [WO_store]; try refine go_ ?_
     obtain ⟨o58, h59, h⟩ := bind_E h; refine t_parents_b0_W k v_up_4 ids_up_4 v_place_5 ids_place_5 (ids_up_4 ++ (ids_place_5 ++ [])) up_4 place_5 t_19 x17.args (x17.args.length : Int) 0 _ _ _ _ (Fr.refl _ _) (HF.refl _ _) sl_ (by repeat (first | exact r_up_4 | apply RowN.new | refine RowN.put ?_ (fun hm => by have := RowN.lt r_up_4 _ hm; omega))) (fun i hi => Or.inl (by simp only [List.mem_append, List.mem_cons, hi, true_or, or_true])) (by repeat (first | exact r_place_5 | apply RowN.new | refine RowN.put ?_ (fun hm => by have := RowN.lt r_place_5 _ hm; omega))) (fun i hi => Or.inl (by simp only [List.mem_append, List.mem_cons, hi, true_or, or_true])) dj_up_4_place_5 _ h59 _ ?_
     ·rintro p60 v64 ids65 v69 ids70 σ' H63 eo fr61 hf62 ⟨s68, s73⟩ r66 nw67 r71 nw72 dj74; rw [eo] at h; have s75 : σ' 17 = (.isl (t_17.map Nd.cells) .unk) := (fr61 17 (by decide)).trans sl_; have s76 : σ' 18 = (.int .i64 t_18) := (fr61 18 (by decide)).trans sl_; have s77 : σ' 19 = (.int .i64 t_19) := (fr61 19 (by decide)).trans sl_; have le := hf62.1; try simp only [AH.new_next, AH.put_next, AH.tok_next, AH.use_next] at le
      try refine go_ ?_
      refine hK _ _ ?_; exact ih v64 ids65 v69 ids70 M p60.1 p60.2 t_17 t_18 (IntKind.wrap .i64 (t_19 + 1)) _ _ _ _ (by repeat (first | exact f0 | refine Fr.upd (by decide) ?_ | refine Fr.via fr61 (by decide) ?_)) (by repeat (first | exact hf0 | refine HF.new ?_ | refine HF.tokd ?_ | refine HF.used ?_ | refine HF.put (by first | (right; omega) | (left; simp only [List.mem_cons, true_or, or_true])) ?_ | refine HF.via hf62 (List.forall_mem_append.2 ⟨nw_up_4, (List.forall_mem_append.2 ⟨nw_place_5, (fun _ h => absurd h List.not_mem_nil)⟩)⟩) ?_)) sl_ (by repeat (first | exact r66 | apply RowN.new | refine RowN.put ?_ (fun hm => by have := RowN.lt r66 _ hm; omega))) (Nw.via (List.forall_mem_append.2 ⟨nw_up_4, (List.forall_mem_append.2 ⟨nw_place_5, (fun _ h => absurd h List.not_mem_nil)⟩)⟩) om_ nw67) (by repeat (first | exact r71 | apply RowN.new | refine RowN.put ?_ (fun hm => by have := RowN.lt r71 _ hm; omega))) (Nw.via (List.forall_mem_append.2 ⟨nw_up_4, (List.forall_mem_append.2 ⟨nw_place_5, (fun _ h => absurd h List.not_mem_nil)⟩)⟩) om_ nw72) dj74 _ h _ q0
    ·obtain rfl := som_E h; try refine go_ ?_
     exact q0 _ v_up_4 ids_up_4 v_place_5 ids_place_5 _ _ rfl fr_ (by repeat (first | exact hf0 | refine HF.new ?_ | refine HF.tokd ?_ | refine HF.used ?_ | refine HF.put (by first | (right; omega) | (left; simp only [List.mem_cons, true_or, or_true])) ?_)) sl_ (by repeat (first | exact r_up_4 | apply RowN.new | refine RowN.put ?_ (fun hm => by have := RowN.lt r_up_4 _ hm; omega))) nw_up_4 (by repeat (first | exact r_place_5 | apply RowN.new | refine RowN.put ?_ (fun hm => by have := RowN.lt r_place_5 _ hm; omega))) nw_place_5 dj_up_4_place_5
def t_parents (k : Nat) (e_0 : List Nd) : Option ((List Int) × (List Int)) :=
  if [(-1)].length = 1 /\ 0 <= (e_0.length : Int) /\ (e_0.length : Int) <= 1000000 then if 0 <= (e_0.length : Int) /\ (e_0.length : Int) <= 1099511627776 /\ 8 * (e_0.length : Int) <= 1099511627776 then Option.bind (t_parents_b1 k (repOne [(-1)] (e_0.length : Int) : List Int) (List.replicate e_0.length 0) e_0 (e_0.length : Int) 0) (fun p80 => some (p80.1, p80.2)) else none else none
theorem t_parents_c {k : Nat} {e_0 : List Nd} {c0 : Ck} {r : (List Int) × (List Int)} (h : t_parents k e_0 = some r) : PCall Tryz.prog 50 [(.isl (e_0.map Nd.cells) c0)] (.tup [(.isl (r.1.map intL) .unk), (.isl (r.2.map intL) .unk)]) := by
  refine PCall.lw (.isl .nil) (PCall.of_empty (PuL.mem (.cons (pu_sl Nd.pu _) .nil)) (MCall_of_W ok50 (by simp) (W_start ?_)) (.tup _ (PuL.mem (.cons (pu_sl pu_intL _) (.cons (pu_sl pu_intL _) .nil))))); unfold t_parents at h; unfold ac50; obtain ⟨e13, h⟩ := if_E h; obtain ⟨e14, h⟩ := if_E h; try refine go_ ?_
  refine WS_par2 (par_rows2 (a := 3) (b := 6) (f := intL) (sz := 1) (xs := (repOne [(-1)] (e_0.length : Int) : List Int)) (g := intL) (sz2 := 1) (ys := (List.replicate e_0.length 0)) (fun x y i => match i with | 0 => (.isl ([(-1)].map intL) .exact) | 1 => (.isl (e_0.map Nd.cells) .unk) | 2 => (.int .i64 (e_0.length : Int)) | 3 => x | 4 => (.isl (e_0.map Nd.cells) .unk) | 5 => (.int .i64 (e_0.length : Int)) | 6 => y | 7 => x | _ => ud) rfl (by decide) rfl rfl (fun _ _ => rfl) (fun _ _ => rfl) (by
    intro x x' y i h1 h2; rcases i with _ | i
    · first | rfl | exact absurd rfl h1 | exact absurd h2 (by decide)
    rcases i with _ | i
    · first | rfl | exact absurd rfl h1 | exact absurd h2 (by decide)
    rcases i with _ | i
    · first | rfl | exact absurd rfl h1 | exact absurd h2 (by decide)
    rcases i with _ | i
    · first | rfl | exact absurd rfl h1 | exact absurd h2 (by decide)
    rcases i with _ | i
    · first | rfl | exact absurd rfl h1 | exact absurd h2 (by decide)
    rcases i with _ | i
    · first | rfl | exact absurd rfl h1 | exact absurd h2 (by decide)
    rcases i with _ | i
    · first | rfl | exact absurd rfl h1 | exact absurd h2 (by decide)
    rcases i with _ | i
    · first | rfl | exact absurd rfl h1 | exact absurd h2 (by decide)
    rfl) (by
    intro x y y' i h1 h2; rcases i with _ | i
    · first | rfl | exact absurd rfl h1 | exact absurd h2 (by decide)
    rcases i with _ | i
    · first | rfl | exact absurd rfl h1 | exact absurd h2 (by decide)
    rcases i with _ | i
    · first | rfl | exact absurd rfl h1 | exact absurd h2 (by decide)
    rcases i with _ | i
    · first | rfl | exact absurd rfl h1 | exact absurd h2 (by decide)
    rcases i with _ | i
    · first | rfl | exact absurd rfl h1 | exact absurd h2 (by decide)
    rcases i with _ | i
    · first | rfl | exact absurd rfl h1 | exact absurd h2 (by decide)
    rcases i with _ | i
    · first | rfl | exact absurd rfl h1 | exact absurd h2 (by decide)
    rcases i with _ | i
    · first | rfl | exact absurd rfl h1 | exact absurd h2 (by decide)
    rfl) (by
    intro x y; refine ⟨.inr ⟨rfl, fun H => by (try simp -implicitDefEqProofs only [WOp, slF, evs, List.map, List.nil_append, List.append_nil, go_sem]); first | done | exact ⟨rfl, rfl⟩⟩, ?_⟩; refine ⟨.inr ⟨rfl, fun H => by (try simp -implicitDefEqProofs only [WOp, slF, evs, List.map, List.nil_append, List.append_nil, go_sem]); first | done | exact ⟨rfl, rfl⟩⟩, ?_⟩; refine ⟨.inr ⟨rfl, fun H => by (try simp -implicitDefEqProofs only [WOp, slF, evs, List.map, List.nil_append, List.append_nil, go_sem]); first | done | exact ⟨rfl, rfl⟩⟩, ?_⟩; refine ⟨.inl rfl, ?_⟩; refine ⟨.inr ⟨rfl, fun H => by (try simp -implicitDefEqProofs only [WOp, slF, evs, List.map, List.nil_append, List.append_nil, go_sem]); first | done | exact ⟨rfl, rfl⟩⟩, ?_⟩; refine ⟨.inr ⟨rfl, fun H => by (try simp -implicitDefEqProofs only [WOp, slF, evs, List.map, List.nil_append, List.append_nil, go_sem]); first | done | exact ⟨rfl, rfl⟩⟩, ?_⟩; refine ⟨.inl rfl, ?_⟩; refine ⟨.inr ⟨rfl, fun H => by (try simp -implicitDefEqProofs only [WOp, slF, evs, List.map, List.nil_append, List.append_nil, go_sem]); first | done | exact ⟨rfl, rfl⟩⟩, ?_⟩; exact trivial) (fun y H => ⟨trivial, mk_call (rep94c [(-1)] (e_0.length : Int) e13) (by simp -implicitDefEqProofs only [slF, evs, List.map, List.nil_append, List.append_nil, go_sem])⟩) (fun x H => ⟨trivial, mk_mksl (f := intL) (k := .i64) (k' := .i64) (n := (e_0.length : Int)) 0 rfl (by simp -implicitDefEqProofs only [slF, evs, List.map, List.nil_append, List.append_nil, go_sem]) (by simp -implicitDefEqProofs only [slF, evs, List.map, List.nil_append, List.append_nil, go_sem]) e14 (by decide)⟩) (fun v1 v8 ids2 ids9 H3 r4 r10 dj12 nw5 nw11 hf6 ok7 => ?_))
  simp only [slF, List.length_cons, List.length_nil, Nat.reduceAdd]; have le := hf6.1; try simp only [AH.new_next, AH.put_next, AH.tok_next, AH.use_next] at le
  try refine go_ ?_
  obtain ⟨o78, h79, h⟩ := bind_E h; refine t_parents_b1_W k v1 ids2 v8 ids9 (ids2 ++ (ids9 ++ [])) (repOne [(-1)] (e_0.length : Int) : List Int) (List.replicate e_0.length 0) e_0 (e_0.length : Int) 0 _ _ _ _ (Fr.refl _ _) (HF.refl _ _) sl_ (by repeat (first | exact r4 | apply RowN.new | refine RowN.put ?_ (fun hm => by have := RowN.lt r4 _ hm; omega))) (fun i hi => Or.inl (by simp only [List.mem_append, List.mem_cons, hi, true_or, or_true])) (by repeat (first | exact r10 | apply RowN.new | refine RowN.put ?_ (fun hm => by have := RowN.lt r10 _ hm; omega))) (fun i hi => Or.inl (by simp only [List.mem_append, List.mem_cons, hi, true_or, or_true])) dj12 _ h79 _ ?_
  ·rintro p80 v84 ids85 v89 ids90 σ' H83 eo fr81 hf82 ⟨s88, s93⟩ r86 nw87 r91 nw92 dj94; rw [eo] at h; have le := hf82.1; try simp only [AH.new_next, AH.put_next, AH.tok_next, AH.use_next] at le
   obtain rfl := som_E h; try refine go_ ?_
   exact (fz_tup (.cons (RowN.fz pu_intL (by repeat (first | exact r86 | apply RowN.new | refine RowN.put ?_ (fun hm => by have := RowN.lt r86 _ hm; omega)))) (.cons (RowN.fz pu_intL (by repeat (first | exact r91 | apply RowN.new | refine RowN.put ?_ (fun hm => by have := RowN.lt r91 _ hm; omega)))) .nil)))
end Go.VL
end
section
namespace Go.VL
open Go.Proofs Go.RowKit
set_option maxRecDepth 100000
theorem enters141 : Enters Tryz.prog 141 := ⟨_, Tryz.func141, rfl, by kernel_rfl⟩
theorem backs141 : Backs Tryz.prog 141 1 false := by
  intro l m bx n J Jx W hn hc hY h0; refine callsIn_of_wp Tryz.func141 rfl trivial ?_ rfl; simp only [Tryz.ntmps141, List.size_toArray, List.length_cons, List.length_nil, Nat.reduceAdd, Nat.reduceSub, Array.replicate_succ, Array.replicate_zero, List.push_toArray, List.append_toArray, List.nil_append, List.cons_append]; obtain ⟨ad0, cap0, hc0⟩ := hc
  gi_wp2
  gi_loopw [3] (fun v3 wr => ∃ k : Nat, v3 = .int .i64 ((k : Int) - 1) /\ k <= n /\ J k wr) (fun v3 wr => (RowKit.intOf v3 + 1).toNat)
  case atStart => exact ⟨n, rfl, Nat.le_refl _, h0⟩
  case round =>
    obtain ⟨k, rfl, hk, hJ⟩ := hrel; cases k with
    | zero =>
      have c1 : ¬ (0 : Int) <= ((0 : Nat) : Int) - 1 := by omega
      gi_wp2
      go_end0
      exact ⟨⟨_, rfl⟩, .inl hJ⟩
    | succ k =>
      obtain ⟨b, o, cap, vs, hb, hkn, hvs, hld, fn, tmps, assign, body, hy, hR⟩ := hY k wr hJ; have e1 : ((k + 1 : Nat) : Int) - 1 = (k : Int) := by omega
      rw [e1]; have c1 : (0 : Int) <= (k : Int) := by omega
      have c2 : (k : Int) < (n : Int) := by omega
      have hld' : wr.cell? ⟨b, o + k, none⟩ = some (elemV false vs) := by
        have := hld 0 (elemV false vs) (by simp [elemV, hvs]); simpa using this
      clear hld; generalize elemV false vs = v at *
      gi_wp2
      refine ⟨fun hd => absurd hd (by simp [Fence.wide]), (roundIn_any hR).mono ?_⟩; rintro e W' (⟨rfl, hJ'⟩ | ⟨rfl, hJx⟩)
      · gi_wp2
        go_roundw
        case rel => exact ⟨k, rfl, by omega, hJ'⟩
        case measure => simp [RowKit.intOf]
      · gi_wp2
        refine bodyPost_ret (results_none rfl _ _ _) rfl ?_; exact ⟨⟨_, rfl⟩, .inr hJx⟩
end Go.VL
end
section
set_option maxRecDepth 8000
set_option maxHeartbeats 4000000
namespace Go.VL
open Go.Proofs
def t_shapeOf_j0 (t_11 : Int) : Option Bool :=
  cond (t_11 == 1) (some ((t_11 == 1))) (some ((t_11 == 2)))
theorem t_shapeOf_j0_W : ∀ (t_11 : Int) (σ0 σ : Nat -> PV) (H : AH) (f0 : Fr [15, 16, 17] σ0 σ) (sl : σ 11 = (.int .i64 t_11)) (o : Bool) (h : t_shapeOf_j0 t_11 = some o) (Q : Post) (q0 : ∀ (p : Bool) (σ' : Nat -> PV), o = p -> Fr [15, 16, 17] σ0 σ' -> (σ' 15 = (.bool p)) -> Q .normal σ' H) , W Tryz.prog ac90_j0 Q σ H := by
  intro t_11 σ0 σ H f0 sl o h Q q0; have s11 := sl; unfold t_shapeOf_j0 at h; refine W_start ?_; unfold ac90_j0; rcases cond_E h with ⟨e2, h⟩ | ⟨e2, h⟩
  ·obtain rfl := som_E h; try refine gos_ ?_
   exact q0 _ _ rfl fr_ sls_
  ·obtain rfl := som_E h; try refine gos_ ?_
   exact q0 _ _ rfl fr_ sls_
def t_shapeOf_j1 (t_11 : Int) : Option Bool :=
  cond (t_11 == 4) (some ((t_11 == 4))) (some ((t_11 == 5)))
theorem t_shapeOf_j1_W : ∀ (t_11 : Int) (σ0 σ : Nat -> PV) (H : AH) (f0 : Fr [38, 39, 40] σ0 σ) (sl : σ 11 = (.int .i64 t_11)) (o : Bool) (h : t_shapeOf_j1 t_11 = some o) (Q : Post) (q0 : ∀ (p : Bool) (σ' : Nat -> PV), o = p -> Fr [38, 39, 40] σ0 σ' -> (σ' 38 = (.bool p)) -> Q .normal σ' H) , W Tryz.prog ac90_j1 Q σ H := by
  intro t_11 σ0 σ H f0 sl o h Q q0; have s11 := sl; unfold t_shapeOf_j1 at h; refine W_start ?_; unfold ac90_j1; rcases cond_E h with ⟨e20, h⟩ | ⟨e20, h⟩
  ·obtain rfl := som_E h; try refine gos_ ?_
   exact q0 _ _ rfl fr_ sls_
  ·obtain rfl := som_E h; try refine gos_ ?_
   exact q0 _ _ rfl fr_ sls_
def t_shapeOf_j2 (t_11 : Int) : Option Bool :=
  cond (t_11 == 6) (some ((t_11 == 6))) (some ((t_11 == 12)))
theorem t_shapeOf_j2_W : ∀ (t_11 : Int) (σ0 σ : Nat -> PV) (H : AH) (f0 : Fr [43, 44, 45] σ0 σ) (sl : σ 11 = (.int .i64 t_11)) (o : Bool) (h : t_shapeOf_j2 t_11 = some o) (Q : Post) (q0 : ∀ (p : Bool) (σ' : Nat -> PV), o = p -> Fr [43, 44, 45] σ0 σ' -> (σ' 43 = (.bool p)) -> Q .normal σ' H) , W Tryz.prog ac90_j2 Q σ H := by
  intro t_11 σ0 σ H f0 sl o h Q q0; have s11 := sl; unfold t_shapeOf_j2 at h; refine W_start ?_; unfold ac90_j2; rcases cond_E h with ⟨e33, h⟩ | ⟨e33, h⟩
  ·obtain rfl := som_E h; try refine gos_ ?_
   exact q0 _ _ rfl fr_ sls_
  ·obtain rfl := som_E h; try refine gos_ ?_
   exact q0 _ _ rfl fr_ sls_
def t_shapeOf_j3 (t_11 : Int) : Option Bool :=
  cond (t_11 == 7) (some ((t_11 == 7))) (cond (t_11 == 8) (some ((t_11 == 8))) (cond (t_11 == 9) (some ((t_11 == 9))) (some ((t_11 == 13)))))
def t_shapeOf_j3l : List Nat := [48, 49, 50, 51, 52]
theorem t_shapeOf_j3_W : ∀ (t_11 : Int) (σ0 σ : Nat -> PV) (H : AH) (f0 : Fr t_shapeOf_j3l σ0 σ) (sl : σ 11 = (.int .i64 t_11)) (o : Bool) (h : t_shapeOf_j3 t_11 = some o) (Q : Post) (q0 : ∀ (p : Bool) (σ' : Nat -> PV), o = p -> Fr t_shapeOf_j3l σ0 σ' -> (σ' 48 = (.bool p)) -> Q .normal σ' H) , W Tryz.prog ac90_j3 Q σ H := by
  intro t_11 σ0 σ H f0 sl o h Q q0; have s11 := sl; unfold t_shapeOf_j3 at h; refine W_start ?_; unfold ac90_j3; rcases cond_E h with ⟨e48, h⟩ | ⟨e48, h⟩
  ·obtain rfl := som_E h; try refine gos_ ?_
   exact q0 _ _ rfl fr_ sls_
  ·rcases cond_E h with ⟨e49, h⟩ | ⟨e49, h⟩
   ·obtain rfl := som_E h; try refine gos_ ?_
    exact q0 _ _ rfl fr_ sls_
   ·rcases cond_E h with ⟨e50, h⟩ | ⟨e50, h⟩
    ·obtain rfl := som_E h; try refine gos_ ?_
     exact q0 _ _ rfl fr_ sls_
    ·obtain rfl := som_E h; try refine gos_ ?_
     exact q0 _ _ rfl fr_ sls_
def t_shapeOf_j4 (t_11 : Int) : Option Bool :=
  cond (t_11 == 10) (some ((t_11 == 10))) (some ((t_11 == 11)))
theorem t_shapeOf_j4_W : ∀ (t_11 : Int) (σ0 σ : Nat -> PV) (H : AH) (f0 : Fr [60, 61, 62] σ0 σ) (sl : σ 11 = (.int .i64 t_11)) (o : Bool) (h : t_shapeOf_j4 t_11 = some o) (Q : Post) (q0 : ∀ (p : Bool) (σ' : Nat -> PV), o = p -> Fr [60, 61, 62] σ0 σ' -> (σ' 60 = (.bool p)) -> Q .normal σ' H) , W Tryz.prog ac90_j4 Q σ H := by
  intro t_11 σ0 σ H f0 sl o h Q q0; have s11 := sl; unfold t_shapeOf_j4 at h; refine W_start ?_; unfold ac90_j4; rcases cond_E h with ⟨e63, h⟩ | ⟨e63, h⟩
  ·obtain rfl := som_E h; try refine gos_ ?_
   exact q0 _ _ rfl fr_ sls_
  ·obtain rfl := som_E h; try refine gos_ ?_
   exact q0 _ _ rfl fr_ sls_
def t_shapeOf_j5 (t_11 : Int) : Option Bool :=
  cond (t_11 == 16) (some ((t_11 == 16))) (some ((t_11 == 17)))
theorem t_shapeOf_j5_W : ∀ (t_11 : Int) (σ0 σ : Nat -> PV) (H : AH) (f0 : Fr [70, 71, 72] σ0 σ) (sl : σ 11 = (.int .i64 t_11)) (o : Bool) (h : t_shapeOf_j5 t_11 = some o) (Q : Post) (q0 : ∀ (p : Bool) (σ' : Nat -> PV), o = p -> Fr [70, 71, 72] σ0 σ' -> (σ' 70 = (.bool p)) -> Q .normal σ' H) , W Tryz.prog ac90_j5 Q σ H := by
  intro t_11 σ0 σ H f0 sl o h Q q0; have s11 := sl; unfold t_shapeOf_j5 at h; refine W_start ?_; unfold ac90_j5; rcases cond_E h with ⟨e77, h⟩ | ⟨e77, h⟩
  ·obtain rfl := som_E h; try refine gos_ ?_
   exact q0 _ _ rfl fr_ sls_
  ·obtain rfl := som_E h; try refine gos_ ?_
   exact q0 _ _ rfl fr_ sls_
def t_shapeOf_j6 (t_11 : Int) : Option Bool :=
  cond (t_11 == 19) (some ((t_11 == 19))) (some ((t_11 == 21)))
theorem t_shapeOf_j6_W : ∀ (t_11 : Int) (σ0 σ : Nat -> PV) (H : AH) (f0 : Fr [82, 83, 84] σ0 σ) (sl : σ 11 = (.int .i64 t_11)) (o : Bool) (h : t_shapeOf_j6 t_11 = some o) (Q : Post) (q0 : ∀ (p : Bool) (σ' : Nat -> PV), o = p -> Fr [82, 83, 84] σ0 σ' -> (σ' 82 = (.bool p)) -> Q .normal σ' H) , W Tryz.prog ac90_j6 Q σ H := by
  intro t_11 σ0 σ H f0 sl o h Q q0; have s11 := sl; unfold t_shapeOf_j6 at h; refine W_start ?_; unfold ac90_j6; rcases cond_E h with ⟨e91, h⟩ | ⟨e91, h⟩
  ·obtain rfl := som_E h; try refine gos_ ?_
   exact q0 _ _ rfl fr_ sls_
  ·obtain rfl := som_E h; try refine gos_ ?_
   exact q0 _ _ rfl fr_ sls_
def t_shapeOf (k : Nat) (n_0 : Nd) : Option Shape :=
  cond (n_0.kind == 0) (some (Shape.mk (0, 0) (0, 0) false true)) (Option.bind (t_shapeOf_j0 n_0.kind) (fun p5 => cond p5 (some (Shape.mk (0, 0) (0, 0) true false)) (cond (n_0.kind == 3) (Option.bind (t_operatorOf k n_0.text) fun p18 => cond p18.2 (some (Shape.mk (0, 0) ((n_0.args.length : Int), (n_0.args.length : Int)) true false)) (some (Shape.mk (0, 0) (1, 4) true false))) (Option.bind (t_shapeOf_j1 n_0.kind) (fun p23 => cond p23 (some (Shape.mk (0, 0) (0, 30) false false)) (Option.bind (t_shapeOf_j2 n_0.kind) (fun p36 => cond p36 (Option.bind (t_shapeOf_1 1 2) fun p47 => some p47) (Option.bind (t_shapeOf_j3 n_0.kind) (fun p53 => cond p53 (some (Shape.mk (1, 4) ((IntKind.wrap .i64 ((n_0.names.length : Int) + 1)), (IntKind.wrap .i64 ((n_0.names.length : Int) + 1))) false false)) (Option.bind (t_shapeOf_j4 n_0.kind) (fun p66 => cond p66 (some (Shape.mk (1, 4) (1, 1) false false)) (cond (n_0.kind == 14) (some (Shape.mk (0, 0) (2, 5) false false)) (Option.bind (t_shapeOf_j5 n_0.kind) (fun p80 => cond p80 (some (Shape.mk (1, 30) ((n_0.names.length : Int), (n_0.names.length : Int)) false false)) (cond (n_0.kind == 18) (some (Shape.mk (0, 0) (1, 1) true false)) (Option.bind (t_shapeOf_j6 n_0.kind) (fun p94 => cond p94 (Option.bind (t_shapeOf_1 0 3) fun p104 => some p104) (cond (n_0.kind == 20) (some (Shape.mk (0, 0) (0, 0) false false)) (cond (n_0.kind == 22) (some (Shape.mk (0, 0) (2, 30) false false)) (cond (n_0.kind == 23) (some (Shape.mk (1, 5) (2, 2) false true)) (cond (n_0.kind == 24) (some (Shape.mk (1, 4) (1, 1) false false)) (Option.bind (t_shapeOf_1 0 2) fun p110 => some p110))))))))))))))))))))))
theorem t_shapeOf_c {k : Nat} {n_0 : Nd} {r : Shape} (h : t_shapeOf k n_0 = some r) : PCall Tryz.prog 90 [(.agg (Nd.cells n_0))] (.agg (Shape.cells r)) := by
  refine PCall.of_empty (PuL.mem (.cons (.agg _ (Nd.pu _)) .nil)) (MCall_of_W ok90 (by simp) (W_start ?_)) (.agg _ (Shape.pu _)); unfold t_shapeOf at h; unfold ac90; rcases cond_E h with ⟨e1, h⟩ | ⟨e1, h⟩
  ·obtain rfl := som_E h; try refine gos_ ?_
   exact (fz_agg (.cons (.pure _ (.int _ _)) (.cons (.pure _ (.int _ _)) (.cons (.pure _ (.int _ _)) (.cons (.pure _ (.int _ _)) (.cons (.pure _ (.bool _)) (.cons (.pure _ (.bool _)) .nil)))))))
  ·try refine gos_ ?_
   obtain ⟨o3, h4, h⟩ := bind_E h; refine t_shapeOf_j0_W n_0.kind _ _ _ (Fr.refl _ _) sls_ _ h4 _ ?_
   ·rintro p5 σ' eo fr6 s9; rw [eo] at h; have s10 : σ' 1 = (.ref (AH.empty.next) 0) := (fr6 1 (by decide)).trans sls_; have s11 : σ' 2 = (.ref (AH.empty.next + 1) 0) := (fr6 2 (by decide)).trans sls_; have s12 : σ' 3 = (.fn (.func 140) [] []) := (fr6 3 (by decide)).trans sls_; have s13 : σ' 4 = (.int .i64 (n_0.names.length : Int)) := (fr6 4 (by decide)).trans sls_; have s14 : σ' 11 = (.int .i64 n_0.kind) := (fr6 11 (by decide)).trans sls_; rcases cond_E h with ⟨e15, h⟩ | ⟨e15, h⟩
    ·obtain rfl := som_E h; try refine gos_ ?_
     exact (fz_agg (.cons (.pure _ (.int _ _)) (.cons (.pure _ (.int _ _)) (.cons (.pure _ (.int _ _)) (.cons (.pure _ (.int _ _)) (.cons (.pure _ (.bool _)) (.cons (.pure _ (.bool _)) .nil)))))))
    ·rcases cond_E h with ⟨e16, h⟩ | ⟨e16, h⟩
     ·obtain ⟨p18, e17, h⟩ := bind_E h; try refine gos_ ?_
      refine mcall_pure (t_operatorOf_c e17) ?_; rcases cond_E h with ⟨e19, h⟩ | ⟨e19, h⟩
      ·obtain rfl := som_E h; try refine gos_ ?_
       exact (fz_agg (.cons (.pure _ (.int _ _)) (.cons (.pure _ (.int _ _)) (.cons (.pure _ (.int _ _)) (.cons (.pure _ (.int _ _)) (.cons (.pure _ (.bool _)) (.cons (.pure _ (.bool _)) .nil)))))))
      ·obtain rfl := som_E h; try refine gos_ ?_
       exact (fz_agg (.cons (.pure _ (.int _ _)) (.cons (.pure _ (.int _ _)) (.cons (.pure _ (.int _ _)) (.cons (.pure _ (.int _ _)) (.cons (.pure _ (.bool _)) (.cons (.pure _ (.bool _)) .nil)))))))
     ·try refine gos_ ?_
      obtain ⟨o21, h22, h⟩ := bind_E h; refine t_shapeOf_j1_W n_0.kind _ _ _ (Fr.refl _ _) sls_ _ h22 _ ?_
      ·rintro p23 σ' eo fr24 s27; rw [eo] at h; have s28 : σ' 2 = (.ref (AH.empty.next + 1) 0) := (fr24 2 (by decide)).trans sls_; have s29 : σ' 3 = (.fn (.func 140) [] []) := (fr24 3 (by decide)).trans sls_; have s30 : σ' 4 = (.int .i64 (n_0.names.length : Int)) := (fr24 4 (by decide)).trans sls_; have s31 : σ' 11 = (.int .i64 n_0.kind) := (fr24 11 (by decide)).trans sls_; rcases cond_E h with ⟨e32, h⟩ | ⟨e32, h⟩
       ·obtain rfl := som_E h; try refine gos_ ?_
        exact (fz_agg (.cons (.pure _ (.int _ _)) (.cons (.pure _ (.int _ _)) (.cons (.pure _ (.int _ _)) (.cons (.pure _ (.int _ _)) (.cons (.pure _ (.bool _)) (.cons (.pure _ (.bool _)) .nil)))))))
       ·try refine gos_ ?_
        obtain ⟨o34, h35, h⟩ := bind_E h; refine t_shapeOf_j2_W n_0.kind _ _ _ (Fr.refl _ _) sls_ _ h35 _ ?_
        ·rintro p36 σ' eo fr37 s40; rw [eo] at h; have s41 : σ' 2 = (.ref (AH.empty.next + 1) 0) := (fr37 2 (by decide)).trans sls_; have s42 : σ' 3 = (.fn (.func 140) [] []) := (fr37 3 (by decide)).trans sls_; have s43 : σ' 4 = (.int .i64 (n_0.names.length : Int)) := (fr37 4 (by decide)).trans sls_; have s44 : σ' 11 = (.int .i64 n_0.kind) := (fr37 11 (by decide)).trans sls_; rcases cond_E h with ⟨e45, h⟩ | ⟨e45, h⟩
         ·obtain ⟨p47, e46, h⟩ := bind_E h; try refine gos_ ?_
          refine mcall_pure (t_shapeOf_1_c e46) ?_; obtain rfl := som_E h; try refine gos_ ?_
          exact (fz_agg (.cons (.pure _ (.int _ _)) (.cons (.pure _ (.int _ _)) (.cons (.pure _ (.int _ _)) (.cons (.pure _ (.int _ _)) (.cons (.pure _ (.bool _)) (.cons (.pure _ (.bool _)) .nil)))))))
         ·try refine gos_ ?_
          obtain ⟨o51, h52, h⟩ := bind_E h; refine t_shapeOf_j3_W n_0.kind _ _ _ (Fr.refl _ _) sls_ _ h52 _ ?_
          ·rintro p53 σ' eo fr54 s57; rw [eo] at h; have s58 : σ' 2 = (.ref (AH.empty.next + 1) 0) := (fr54 2 (by decide)).trans sls_; have s59 : σ' 3 = (.fn (.func 140) [] []) := (fr54 3 (by decide)).trans sls_; have s60 : σ' 4 = (.int .i64 (n_0.names.length : Int)) := (fr54 4 (by decide)).trans sls_; have s61 : σ' 11 = (.int .i64 n_0.kind) := (fr54 11 (by decide)).trans sls_; rcases cond_E h with ⟨e62, h⟩ | ⟨e62, h⟩
           ·obtain rfl := som_E h; try refine gos_ ?_
            exact (fz_agg (.cons (.pure _ (.int _ _)) (.cons (.pure _ (.int _ _)) (.cons (.pure _ (.int _ _)) (.cons (.pure _ (.int _ _)) (.cons (.pure _ (.bool _)) (.cons (.pure _ (.bool _)) .nil)))))))
           ·try refine gos_ ?_
            obtain ⟨o64, h65, h⟩ := bind_E h; refine t_shapeOf_j4_W n_0.kind _ _ _ (Fr.refl _ _) sls_ _ h65 _ ?_
            ·rintro p66 σ' eo fr67 s70; rw [eo] at h; have s71 : σ' 2 = (.ref (AH.empty.next + 1) 0) := (fr67 2 (by decide)).trans sls_; have s72 : σ' 3 = (.fn (.func 140) [] []) := (fr67 3 (by decide)).trans sls_; have s73 : σ' 4 = (.int .i64 (n_0.names.length : Int)) := (fr67 4 (by decide)).trans sls_; have s74 : σ' 11 = (.int .i64 n_0.kind) := (fr67 11 (by decide)).trans sls_; rcases cond_E h with ⟨e75, h⟩ | ⟨e75, h⟩
             ·obtain rfl := som_E h; try refine gos_ ?_
              exact (fz_agg (.cons (.pure _ (.int _ _)) (.cons (.pure _ (.int _ _)) (.cons (.pure _ (.int _ _)) (.cons (.pure _ (.int _ _)) (.cons (.pure _ (.bool _)) (.cons (.pure _ (.bool _)) .nil)))))))
             ·rcases cond_E h with ⟨e76, h⟩ | ⟨e76, h⟩
              ·obtain rfl := som_E h; try refine gos_ ?_
               exact (fz_agg (.cons (.pure _ (.int _ _)) (.cons (.pure _ (.int _ _)) (.cons (.pure _ (.int _ _)) (.cons (.pure _ (.int _ _)) (.cons (.pure _ (.bool _)) (.cons (.pure _ (.bool _)) .nil)))))))
              ·try refine gos_ ?_
               obtain ⟨o78, h79, h⟩ := bind_E h; refine t_shapeOf_j5_W n_0.kind _ _ _ (Fr.refl _ _) sls_ _ h79 _ ?_
               ·rintro p80 σ' eo fr81 s84; rw [eo] at h; have s85 : σ' 2 = (.ref (AH.empty.next + 1) 0) := (fr81 2 (by decide)).trans sls_; have s86 : σ' 3 = (.fn (.func 140) [] []) := (fr81 3 (by decide)).trans sls_; have s87 : σ' 4 = (.int .i64 (n_0.names.length : Int)) := (fr81 4 (by decide)).trans sls_; have s88 : σ' 11 = (.int .i64 n_0.kind) := (fr81 11 (by decide)).trans sls_; rcases cond_E h with ⟨e89, h⟩ | ⟨e89, h⟩
                ·obtain rfl := som_E h; try refine gos_ ?_
                 exact (fz_agg (.cons (.pure _ (.int _ _)) (.cons (.pure _ (.int _ _)) (.cons (.pure _ (.int _ _)) (.cons (.pure _ (.int _ _)) (.cons (.pure _ (.bool _)) (.cons (.pure _ (.bool _)) .nil)))))))
                ·rcases cond_E h with ⟨e90, h⟩ | ⟨e90, h⟩
                 ·obtain rfl := som_E h; try refine gos_ ?_
                  exact (fz_agg (.cons (.pure _ (.int _ _)) (.cons (.pure _ (.int _ _)) (.cons (.pure _ (.int _ _)) (.cons (.pure _ (.int _ _)) (.cons (.pure _ (.bool _)) (.cons (.pure _ (.bool _)) .nil)))))))
                 ·try refine gos_ ?_
                  obtain ⟨o92, h93, h⟩ := bind_E h; refine t_shapeOf_j6_W n_0.kind _ _ _ (Fr.refl _ _) sls_ _ h93 _ ?_
                  ·rintro p94 σ' eo fr95 s98; rw [eo] at h; have s99 : σ' 2 = (.ref (AH.empty.next + 1) 0) := (fr95 2 (by decide)).trans sls_; have s100 : σ' 3 = (.fn (.func 140) [] []) := (fr95 3 (by decide)).trans sls_; have s101 : σ' 11 = (.int .i64 n_0.kind) := (fr95 11 (by decide)).trans sls_; rcases cond_E h with ⟨e102, h⟩ | ⟨e102, h⟩
                   ·obtain ⟨p104, e103, h⟩ := bind_E h; try refine gos_ ?_
                    refine mcall_pure (t_shapeOf_1_c e103) ?_; obtain rfl := som_E h; try refine gos_ ?_
                    exact (fz_agg (.cons (.pure _ (.int _ _)) (.cons (.pure _ (.int _ _)) (.cons (.pure _ (.int _ _)) (.cons (.pure _ (.int _ _)) (.cons (.pure _ (.bool _)) (.cons (.pure _ (.bool _)) .nil)))))))
                   ·rcases cond_E h with ⟨e105, h⟩ | ⟨e105, h⟩
                    ·obtain rfl := som_E h; try refine gos_ ?_
                     exact (fz_agg (.cons (.pure _ (.int _ _)) (.cons (.pure _ (.int _ _)) (.cons (.pure _ (.int _ _)) (.cons (.pure _ (.int _ _)) (.cons (.pure _ (.bool _)) (.cons (.pure _ (.bool _)) .nil)))))))
                    ·rcases cond_E h with ⟨e106, h⟩ | ⟨e106, h⟩
                     ·obtain rfl := som_E h; try refine gos_ ?_
                      exact (fz_agg (.cons (.pure _ (.int _ _)) (.cons (.pure _ (.int _ _)) (.cons (.pure _ (.int _ _)) (.cons (.pure _ (.int _ _)) (.cons (.pure _ (.bool _)) (.cons (.pure _ (.bool _)) .nil)))))))
                     ·rcases cond_E h with ⟨e107, h⟩ | ⟨e107, h⟩
                      ·obtain rfl := som_E h; try refine gos_ ?_
                       exact (fz_agg (.cons (.pure _ (.int _ _)) (.cons (.pure _ (.int _ _)) (.cons (.pure _ (.int _ _)) (.cons (.pure _ (.int _ _)) (.cons (.pure _ (.bool _)) (.cons (.pure _ (.bool _)) .nil)))))))
                      ·rcases cond_E h with ⟨e108, h⟩ | ⟨e108, h⟩
                       ·obtain rfl := som_E h; try refine gos_ ?_
                        exact (fz_agg (.cons (.pure _ (.int _ _)) (.cons (.pure _ (.int _ _)) (.cons (.pure _ (.int _ _)) (.cons (.pure _ (.int _ _)) (.cons (.pure _ (.bool _)) (.cons (.pure _ (.bool _)) .nil)))))))
                       ·obtain ⟨p110, e109, h⟩ := bind_E h; try refine gos_ ?_
                        refine mcall_pure (t_shapeOf_1_c e109) ?_; obtain rfl := som_E h; try refine gos_ ?_
                        exact (fz_agg (.cons (.pure _ (.int _ _)) (.cons (.pure _ (.int _ _)) (.cons (.pure _ (.int _ _)) (.cons (.pure _ (.int _ _)) (.cons (.pure _ (.bool _)) (.cons (.pure _ (.bool _)) .nil)))))))
def t_isLost_b0 : Nat -> (List Nd) -> (List Int) -> (List Int) -> Int -> Option (Unit ⊕ Bool)
  | 0, _, _, _, _ => none
  | k + 1, e_0, up_2, place_3, at_11 =>
    if 0 <= at_11 then Option.bind (up_2[at_11.toNat]?) fun x16 => cond (x16 != (-1)) (if 0 <= x16 then Option.bind (e_0[x16.toNat]?) fun x20 => cond (x20.kind == 19) (Option.bind (place_3[at_11.toNat]?) fun x23 => cond (x23 == 2) (some (.inr (false))) (t_isLost_b0 k e_0 up_2 place_3 x16)) (t_isLost_b0 k e_0 up_2 place_3 x16) else none) (some (.inl ())) else none
def t_isLost_b0l : List Nat := [8, 11] ++ List.range' 51 25
theorem t_isLost_b0_W : ∀ (k : Nat) (e_0 : List Nd) (up_2 : List Int) (place_3 : List Int) (at_11 : Int) (σ0 σ : Nat -> PV) (H : AH) (f0 : Fr t_isLost_b0l σ0 σ) (sl : σ 0 = (.isl (e_0.map Nd.cells) .unk) /\ σ 2 = (.isl (up_2.map intL) .unk) /\ σ 3 = (.isl (place_3.map intL) .unk) /\ σ 11 = (.int .i64 at_11)) (o : Unit ⊕ Bool) (h : t_isLost_b0 k e_0 up_2 place_3 at_11 = some o) (Q : Post) (q0 : ∀ (p : Unit) (σ' : Nat -> PV), o = .inl p -> Fr t_isLost_b0l σ0 σ' -> Q (.exit 1) σ' H) (q1 : ∀ (p : Bool) (σ' : Nat -> PV), o = .inr (p) -> Fr t_isLost_b0l σ0 σ' -> (σ' 8 = (.bool p)) -> Q .ret σ' H) , W Tryz.prog (.loop ac51_b0) Q σ H := by
  intro k
  induction k with
  | zero => intro e_0 up_2 place_3 at_11 σ0 σ H f0 sl o h Q q0 q1; simp only [t_isLost_b0, reduceCtorEq] at h
  | succ k ih =>
    intro e_0 up_2 place_3 at_11 σ0 σ H f0 sl o h Q q0 q1; obtain ⟨s0, s2, s3, s11⟩ := sl; unfold t_isLost_b0 at h; refine W_loopK (fun K hK => W_start ?_); unfold ac51_b0; obtain ⟨e15, h⟩ := if_E h; obtain ⟨x16, e17, h⟩ := bind_E h; rcases cond_E h with ⟨e18, h⟩ | ⟨e18, h⟩
    ·obtain ⟨e19, h⟩ := if_E h; obtain ⟨x20, e21, h⟩ := bind_E h; rcases cond_E h with ⟨e22, h⟩ | ⟨e22, h⟩
     ·obtain ⟨x23, e24, h⟩ := bind_E h; rcases cond_E h with ⟨e25, h⟩ | ⟨e25, h⟩
      ·obtain rfl := som_E h; try refine gos_ ?_
       exact q1 _ _ rfl fr_ sls_
      ·try refine gos_ ?_
       refine hK _ _ ?_; exact ih e_0 up_2 place_3 x16 _ _ _ fr_ sls_ _ h _ q0 q1
     ·try refine gos_ ?_
      refine hK _ _ ?_; exact ih e_0 up_2 place_3 x16 _ _ _ fr_ sls_ _ h _ q0 q1
    ·obtain rfl := som_E h; try refine gos_ ?_
     exact q0 _ _ rfl fr_
def t_isLost (k : Nat) (e_0 : List Nd) (i_1 : Int) (up_2 : List Int) (place_3 : List Int) : Option Bool :=
  if 0 <= i_1 then Option.bind (e_0[i_1.toNat]?) fun x2 => cond (x2.kind == 24) (Option.bind (up_2[i_1.toNat]?) fun x5 => cond (x5 == (-1)) (some true) (if 0 <= x5 then Option.bind (e_0[x5.toNat]?) fun x9 => cond (x9.kind != 3) (some true) (Option.bind (t_operatorOf k x9.text) fun p13 => some p13.2) else none)) (cond (x2.kind == 20) (Option.bind (t_isLost_b0 k e_0 up_2 place_3 i_1) (fun o => Sum.elim (fun p28 => some true) (fun p32 => some p32) o)) (some false)) else none
theorem t_isLost_c {k : Nat} {e_0 : List Nd} {i_1 : Int} {up_2 : List Int} {place_3 : List Int} {c0 c2 c3 : Ck} {r : Bool} (h : t_isLost k e_0 i_1 up_2 place_3 = some r) : PCall Tryz.prog 51 [(.isl (e_0.map Nd.cells) c0), (.int .i64 i_1), (.isl (up_2.map intL) c2), (.isl (place_3.map intL) c3)] (.bool r) := by
  refine PCall.lw (.isl (.same (.isl (.isl .nil)))) (PCall.of_empty (PuL.mem (.cons (pu_sl Nd.pu _) (.cons (.int _ _) (.cons (pu_sl pu_intL _) (.cons (pu_sl pu_intL _) .nil))))) (MCall_of_W ok51 (by simp) (W_start ?_)) (.bool _)); unfold t_isLost at h; unfold ac51; obtain ⟨e1, h⟩ := if_E h; obtain ⟨x2, e3, h⟩ := bind_E h; rcases cond_E h with ⟨e4, h⟩ | ⟨e4, h⟩
  ·obtain ⟨x5, e6, h⟩ := bind_E h; rcases cond_E h with ⟨e7, h⟩ | ⟨e7, h⟩
   ·obtain rfl := som_E h; try refine gos_ ?_
    exact (.pure _ (.bool _))
   ·obtain ⟨e8, h⟩ := if_E h; obtain ⟨x9, e10, h⟩ := bind_E h; rcases cond_E h with ⟨e11, h⟩ | ⟨e11, h⟩
    ·obtain rfl := som_E h; try refine gos_ ?_
     exact (.pure _ (.bool _))
    ·obtain ⟨p13, e12, h⟩ := bind_E h; try refine gos_ ?_
     refine mcall_pure (t_operatorOf_c e12) ?_; obtain rfl := som_E h; try refine gos_ ?_
     exact (.pure _ (.bool _))
  ·rcases cond_E h with ⟨e14, h⟩ | ⟨e14, h⟩
   ·try refine gos_ ?_
    obtain ⟨o26, h27, h⟩ := bind_E h; refine t_isLost_b0_W k e_0 up_2 place_3 i_1 _ _ _ (Fr.refl _ _) sls_ _ h27 _ ?_ ?_
    ·rintro p28 σ' eo fr29; subst eo; rw [sum_L] at h; obtain rfl := som_E h; try refine gos_ ?_
     exact (.pure _ (.bool _))
    ·rintro p32 σ' eo fr33 s36; subst eo; rw [sum_R] at h; obtain rfl := som_E h; try refine gos_ ?_
     exact (.pure _ (.bool _))
   ·obtain rfl := som_E h; try refine gos_ ?_
    exact (.pure _ (.bool _))
def t_namesErr_1 (k : Nat) (s_0 : Str) : Option Bool :=
  Option.bind (t_isName k s_0) fun p2 => some (!p2)
theorem t_namesErr_1_c {k : Nat} {s_0 : Str} {r : Bool} (h : t_namesErr_1 k s_0 = some r) : PCall Tryz.prog 145 [(.str s_0)] (.bool r) := by
  refine PCall.of_empty (PuL.mem (.cons (.str _) .nil)) (MCall_of_W ok145 (by simp) (W_start ?_)) (.bool _); unfold t_namesErr_1 at h; unfold ac145; obtain ⟨p2, e1, h⟩ := bind_E h; try refine gos_ ?_
  refine mcall_pure (t_isName_c e1) ?_; obtain rfl := som_E h; try refine gos_ ?_
  exact (.pure _ (.bool _))
def g_IndexFunc_string_string_at145_b0 : Nat -> (List Str) -> Int -> Int -> Option (Unit ⊕ Int)
  | 0, _, _, _ => none
  | k + 1, s_0, t_7, t_8 =>
    cond (decide (t_8 < t_7)) (if 0 <= t_8 then Option.bind (s_0[t_8.toNat]?) fun x3 => Option.bind (t_namesErr_1 k x3) fun p6 => cond p6 (some (.inr (t_8))) (g_IndexFunc_string_string_at145_b0 k s_0 t_7 (IntKind.wrap .i64 (t_8 + 1))) else none) (some (.inl ()))
def g_IndexFunc_string_string_at145_b0l : List Nat := [4, 5] ++ List.range' 8 11
theorem g_IndexFunc_string_string_at145_b0_W : ∀ (k : Nat) (s_0 : List Str) (t_7 : Int) (t_8 : Int) (σ0 σ : Nat -> PV) (H : AH) (f0 : Fr g_IndexFunc_string_string_at145_b0l σ0 σ) (sl : σ 0 = (.isl (s_0.map strL) .unk) /\ σ 1 = (.fn (.func 145) [] []) /\ σ 7 = (.int .i64 t_7) /\ σ 8 = (.int .i64 t_8)) (o : Unit ⊕ Int) (h : g_IndexFunc_string_string_at145_b0 k s_0 t_7 t_8 = some o) (Q : Post) (q0 : ∀ (p : Unit) (σ' : Nat -> PV), o = .inl p -> Fr g_IndexFunc_string_string_at145_b0l σ0 σ' -> Q (.exit 0) σ' H) (q1 : ∀ (p : Int) (σ' : Nat -> PV), o = .inr (p) -> Fr g_IndexFunc_string_string_at145_b0l σ0 σ' -> (σ' 4 = (.int .i64 p)) -> Q .ret σ' H) , W Tryz.prog (.loop ac186_b0) Q σ H := by
  intro k
  induction k with
  | zero => intro s_0 t_7 t_8 σ0 σ H f0 sl o h Q q0 q1; simp only [g_IndexFunc_string_string_at145_b0, reduceCtorEq] at h
  | succ k ih =>
    intro s_0 t_7 t_8 σ0 σ H f0 sl o h Q q0 q1; obtain ⟨s0, s1, s7, s8⟩ := sl; unfold g_IndexFunc_string_string_at145_b0 at h; refine W_loopK (fun K hK => W_start ?_); unfold ac186_b0; rcases cond_E h with ⟨e1, h⟩ | ⟨e1, h⟩
    ·obtain ⟨e2, h⟩ := if_E h; obtain ⟨x3, e4, h⟩ := bind_E h; obtain ⟨p6, e5, h⟩ := bind_E h; try refine gos_ ?_
     refine mcall_pure (t_namesErr_1_c e5) ?_; rcases cond_E h with ⟨e7, h⟩ | ⟨e7, h⟩
     ·obtain rfl := som_E h; try refine gos_ ?_
      exact q1 _ _ rfl fr_ sls_
     ·try refine gos_ ?_
      refine hK _ _ ?_; exact ih s_0 t_7 (IntKind.wrap .i64 (t_8 + 1)) _ _ _ fr_ sls_ _ h _ q0 q1
    ·obtain rfl := som_E h; try refine gos_ ?_
     exact q0 _ _ rfl fr_
def g_IndexFunc_string_string_at145 (k : Nat) (s_0 : List Str) : Option Int :=
  Option.bind (g_IndexFunc_string_string_at145_b0 k s_0 (s_0.length : Int) 0) (fun o => Sum.elim (fun p10 => some (-1)) (fun p14 => some p14) o)
theorem g_IndexFunc_string_string_at145_c {k : Nat} {s_0 : List Str} {c0 : Ck} {r : Int} (h : g_IndexFunc_string_string_at145 k s_0 = some r) : PCall Tryz.prog 186 [(.isl (s_0.map strL) c0), (.fn (.func 145) [] [])] (.int .i64 r) := by
  refine PCall.lw (.isl (.same .nil)) (PCall.of_empty (PuL.mem (.cons (pu_sl pu_strL _) (.cons (.fn _ _ _ (PuL.mem .nil) (PuL.mem .nil)) .nil))) (MCall_of_W ok186 (by simp) (W_start ?_)) (.int _ _)); unfold g_IndexFunc_string_string_at145 at h; unfold ac186; try refine gos_ ?_
  obtain ⟨o8, h9, h⟩ := bind_E h; refine g_IndexFunc_string_string_at145_b0_W k s_0 (s_0.length : Int) 0 _ _ _ (Fr.refl _ _) sls_ _ h9 _ ?_ ?_
  ·rintro p10 σ' eo fr11; subst eo; rw [sum_L] at h; obtain rfl := som_E h; try refine gos_ ?_
   exact (.pure _ (.int _ _))
  ·rintro p14 σ' eo fr15 s18; subst eo; rw [sum_R] at h; obtain rfl := som_E h; try refine gos_ ?_
   exact (.pure _ (.int _ _))
def g_ContainsFunc_string_string_at145 (k : Nat) (s_0 : List Str) : Option Bool :=
  Option.bind (g_IndexFunc_string_string_at145 k s_0) fun p2 => some (decide (p2 >= 0))
theorem g_ContainsFunc_string_string_at145_c {k : Nat} {s_0 : List Str} {c0 : Ck} {r : Bool} (h : g_ContainsFunc_string_string_at145 k s_0 = some r) : PCall Tryz.prog 144 [(.isl (s_0.map strL) c0), (.fn (.func 145) [] [])] (.bool r) := by
  refine PCall.lw (.isl (.same .nil)) (PCall.of_empty (PuL.mem (.cons (pu_sl pu_strL _) (.cons (.fn _ _ _ (PuL.mem .nil) (PuL.mem .nil)) .nil))) (MCall_of_W ok144 (by simp) (W_start ?_)) (.bool _)); unfold g_ContainsFunc_string_string_at145 at h; unfold ac144; obtain ⟨p2, e1, h⟩ := bind_E h; try refine gos_ ?_
  refine mcall_pure (g_IndexFunc_string_string_at145_c e1) ?_; obtain rfl := som_E h; try refine gos_ ?_
  exact (.pure _ (.bool _))
def t_namesErr_p0 (k : Nat) (n_1_0 : Int) (n_1_1 : Int) (n_1_2 : Str) (n_1_3 : List Str) (n_1_4 : List Int) (t_24 : Bool) : Option Bool :=
  cond t_24 (some (true)) (Option.bind (t_isFixed n_1_2) fun p8 => cond p8 (some (false)) (Option.bind (t_isCalled k n_1_2) fun p11 => some ((!p11))))
def t_namesErr_p0l : List Nat := List.range' 25 11
theorem t_namesErr_p0_W (k : Nat) : ∀ (o_n_1 : Nat) (n_1_0 : Int) (n_1_1 : Int) (n_1_2 : Str) (n_1_3 : List Str) (n_1_4 : List Int) (t_24 : Bool) (σ0 σ : Nat -> PV) (H : AH) (f0 : Fr t_namesErr_p0l σ0 σ) (sl : σ 1 = (.ref (o_n_1) 0) /\ σ 24 = (.bool t_24) /\ H.obj o_n_1 = some [(.int .i64 n_1_0), (.int .i64 n_1_1), (.str n_1_2), (.isl (n_1_3.map strL) .unk), (.isl (n_1_4.map intL) .unk)]) (l_o_n_1 : o_n_1 < H.next) (o : Bool) (h : t_namesErr_p0 k n_1_0 n_1_1 n_1_2 n_1_3 n_1_4 t_24 = some o) (Q : Post) (q0 : ∀ (p : Bool) (σ' : Nat -> PV), o = p -> Fr t_namesErr_p0l σ0 σ' -> (σ' 35 = (.bool p)) -> Q .normal σ' H) , WOps Tryz.prog ac93_p0 (Q .normal) σ H := by
  intro o_n_1 n_1_0 n_1_1 n_1_2 n_1_3 n_1_4 t_24 σ0 σ H f0 sl l_o_n_1 o h Q q0; obtain ⟨s1, s24, g_o_n_1⟩ := sl; have n_o_n_1 := ne_next l_o_n_1; have m_o_n_1 := ne_add l_o_n_1; unfold t_namesErr_p0 at h; refine WO_start ?_; unfold ac93_p0; rcases cond_E h with ⟨e6, h⟩ | ⟨e6, h⟩
  ·obtain rfl := som_E h; try refine gos_ ?_
   exact q0 _ _ rfl fr_ sls_
  ·obtain ⟨p8, e7, h⟩ := bind_E h; try refine gos_ ?_
   refine mcall_pure (t_isFixed_c e7) ?_; rcases cond_E h with ⟨e9, h⟩ | ⟨e9, h⟩
   ·obtain rfl := som_E h; try refine gos_ ?_
    exact q0 _ _ rfl fr_ sls_
   ·obtain ⟨p11, e10, h⟩ := bind_E h; try refine gos_ ?_
    refine mcall_pure (t_isCalled_c e10) ?_; obtain rfl := som_E h; try refine gos_ ?_
    exact q0 _ _ rfl fr_ sls_
def t_namesErr_p1 (k : Nat) (n_1_0 : Int) (n_1_1 : Int) (n_1_2 : Str) (n_1_3 : List Str) (n_1_4 : List Int) (operator_5 : Bool) (t_39 : Bool) : Option Bool :=
  cond t_39 (some (true)) (cond operator_5 (some (false)) (Option.bind (t_isCalled k n_1_2) fun p25 => some ((!p25))))
def t_namesErr_p1l : List Nat := List.range' 40 9
theorem t_namesErr_p1_W (k : Nat) : ∀ (o_n_1 : Nat) (n_1_0 : Int) (n_1_1 : Int) (n_1_2 : Str) (n_1_3 : List Str) (n_1_4 : List Int) (operator_5 : Bool) (t_39 : Bool) (σ0 σ : Nat -> PV) (H : AH) (f0 : Fr t_namesErr_p1l σ0 σ) (sl : σ 1 = (.ref (o_n_1) 0) /\ σ 5 = (.bool operator_5) /\ σ 39 = (.bool t_39) /\ H.obj o_n_1 = some [(.int .i64 n_1_0), (.int .i64 n_1_1), (.str n_1_2), (.isl (n_1_3.map strL) .unk), (.isl (n_1_4.map intL) .unk)]) (l_o_n_1 : o_n_1 < H.next) (o : Bool) (h : t_namesErr_p1 k n_1_0 n_1_1 n_1_2 n_1_3 n_1_4 operator_5 t_39 = some o) (Q : Post) (q0 : ∀ (p : Bool) (σ' : Nat -> PV), o = p -> Fr t_namesErr_p1l σ0 σ' -> (σ' 48 = (.bool p)) -> Q .normal σ' H) , WOps Tryz.prog ac93_p1 (Q .normal) σ H := by
  intro o_n_1 n_1_0 n_1_1 n_1_2 n_1_3 n_1_4 operator_5 t_39 σ0 σ H f0 sl l_o_n_1 o h Q q0; obtain ⟨s1, s5, s39, g_o_n_1⟩ := sl; have n_o_n_1 := ne_next l_o_n_1; have m_o_n_1 := ne_add l_o_n_1; unfold t_namesErr_p1 at h; refine WO_start ?_; unfold ac93_p1; rcases cond_E h with ⟨e22, h⟩ | ⟨e22, h⟩
  ·obtain rfl := som_E h; try refine gos_ ?_
   exact q0 _ _ rfl fr_ sls_
  ·rcases cond_E h with ⟨e23, h⟩ | ⟨e23, h⟩
   ·obtain rfl := som_E h; try refine gos_ ?_
    exact q0 _ _ rfl fr_ sls_
   ·obtain ⟨p25, e24, h⟩ := bind_E h; try refine gos_ ?_
    refine mcall_pure (t_isCalled_c e24) ?_; obtain rfl := som_E h; try refine gos_ ?_
    exact q0 _ _ rfl fr_ sls_
def t_namesErr_p2 (n_1_0 : Int) (n_1_1 : Int) (n_1_2 : Str) (n_1_3 : List Str) (n_1_4 : List Int) (o_4_0 : Str) (o_4_1 : Int) (o_4_2 : Int) (o_4_3 : Int) (o_4_4 : Bool) (o_4_5 : Int) (o_4_6 : Int) (t_50 : Bool) : Option Bool :=
  cond t_50 (Option.bind (t_spans (n_1_4.length : Int) o_4_5 o_4_6) fun p38 => some ((!p38))) (some (false))
def t_namesErr_p2l : List Nat := List.range' 51 10
theorem t_namesErr_p2_W : ∀ (o_n_1 : Nat) (o_o_4 : Nat) (n_1_0 : Int) (n_1_1 : Int) (n_1_2 : Str) (n_1_3 : List Str) (n_1_4 : List Int) (o_4_0 : Str) (o_4_1 : Int) (o_4_2 : Int) (o_4_3 : Int) (o_4_4 : Bool) (o_4_5 : Int) (o_4_6 : Int) (t_50 : Bool) (σ0 σ : Nat -> PV) (H : AH) (f0 : Fr t_namesErr_p2l σ0 σ) (sl : σ 1 = (.ref (o_n_1) 0) /\ σ 4 = (.ref (o_o_4) 0) /\ σ 50 = (.bool t_50) /\ H.obj o_n_1 = some [(.int .i64 n_1_0), (.int .i64 n_1_1), (.str n_1_2), (.isl (n_1_3.map strL) .unk), (.isl (n_1_4.map intL) .unk)] /\ H.obj o_o_4 = some [(.str o_4_0), (.int .i64 o_4_1), (.int .i64 o_4_2), (.int .i64 o_4_3), (.bool o_4_4), (.int .i64 o_4_5), (.int .i64 o_4_6)]) (l_o_n_1 : o_n_1 < H.next) (l_o_o_4 : o_o_4 < H.next) (d_o_n_1_o_o_4 : o_n_1 ≠ o_o_4) (o : Bool) (h : t_namesErr_p2 n_1_0 n_1_1 n_1_2 n_1_3 n_1_4 o_4_0 o_4_1 o_4_2 o_4_3 o_4_4 o_4_5 o_4_6 t_50 = some o) (Q : Post) (q0 : ∀ (p : Bool) (σ' : Nat -> PV), o = p -> Fr t_namesErr_p2l σ0 σ' -> (σ' 60 = (.bool p)) -> Q .normal σ' H) , WOps Tryz.prog ac93_p2 (Q .normal) σ H := by
  intro o_n_1 o_o_4 n_1_0 n_1_1 n_1_2 n_1_3 n_1_4 o_4_0 o_4_1 o_4_2 o_4_3 o_4_4 o_4_5 o_4_6 t_50 σ0 σ H f0 sl l_o_n_1 l_o_o_4 d_o_n_1_o_o_4 o h Q q0; obtain ⟨s1, s4, s50, g_o_n_1, g_o_o_4⟩ := sl; have n_o_n_1 := ne_next l_o_n_1; have m_o_n_1 := ne_add l_o_n_1; have n_o_o_4 := ne_next l_o_o_4; have m_o_o_4 := ne_add l_o_o_4; have e_o_n_1_o_o_4 := eq_false d_o_n_1_o_o_4; have r_o_n_1_o_o_4 := eq_false (Ne.symm d_o_n_1_o_o_4); unfold t_namesErr_p2 at h; refine WO_start ?_; unfold ac93_p2; rcases cond_E h with ⟨e36, h⟩ | ⟨e36, h⟩
  ·obtain ⟨p38, e37, h⟩ := bind_E h; try refine gos_ ?_
   refine mcall_pure (t_spans_c e37) ?_; obtain rfl := som_E h; try refine gos_ ?_
   exact q0 _ _ rfl fr_ sls_
  ·obtain rfl := som_E h; try refine gos_ ?_
   exact q0 _ _ rfl fr_ sls_
def t_namesErr_p3 (k : Nat) (n_1_0 : Int) (n_1_1 : Int) (n_1_2 : Str) (n_1_3 : List Str) (n_1_4 : List Int) (t_64 : Bool) : Option Bool :=
  cond t_64 (some (true)) (Option.bind (t_isName k n_1_2) fun p51 => some ((!p51)))
def t_namesErr_p3l : List Nat := [65, 66, 67, 68, 69]
theorem t_namesErr_p3_W (k : Nat) : ∀ (o_n_1 : Nat) (n_1_0 : Int) (n_1_1 : Int) (n_1_2 : Str) (n_1_3 : List Str) (n_1_4 : List Int) (t_64 : Bool) (σ0 σ : Nat -> PV) (H : AH) (f0 : Fr t_namesErr_p3l σ0 σ) (sl : σ 1 = (.ref (o_n_1) 0) /\ σ 64 = (.bool t_64) /\ H.obj o_n_1 = some [(.int .i64 n_1_0), (.int .i64 n_1_1), (.str n_1_2), (.isl (n_1_3.map strL) .unk), (.isl (n_1_4.map intL) .unk)]) (l_o_n_1 : o_n_1 < H.next) (o : Bool) (h : t_namesErr_p3 k n_1_0 n_1_1 n_1_2 n_1_3 n_1_4 t_64 = some o) (Q : Post) (q0 : ∀ (p : Bool) (σ' : Nat -> PV), o = p -> Fr t_namesErr_p3l σ0 σ' -> (σ' 69 = (.bool p)) -> Q .normal σ' H) , WOps Tryz.prog ac93_p3 (Q .normal) σ H := by
  intro o_n_1 n_1_0 n_1_1 n_1_2 n_1_3 n_1_4 t_64 σ0 σ H f0 sl l_o_n_1 o h Q q0; obtain ⟨s1, s64, g_o_n_1⟩ := sl; have n_o_n_1 := ne_next l_o_n_1; have m_o_n_1 := ne_add l_o_n_1; unfold t_namesErr_p3 at h; refine WO_start ?_; unfold ac93_p3; rcases cond_E h with ⟨e49, h⟩ | ⟨e49, h⟩
  ·obtain rfl := som_E h; try refine gos_ ?_
   exact q0 _ _ rfl fr_ sls_
  ·obtain ⟨p51, e50, h⟩ := bind_E h; try refine gos_ ?_
   refine mcall_pure (t_isName_c e50) ?_; obtain rfl := som_E h; try refine gos_ ?_
   exact q0 _ _ rfl fr_ sls_
def t_namesErr_j4 (k : Nat) (n_1_0 : Int) (n_1_1 : Int) (n_1_2 : Str) (n_1_3 : List Str) (n_1_4 : List Int) (bad_3 : Bool) (o_4_0 : Str) (o_4_1 : Int) (o_4_2 : Int) (o_4_3 : Int) (o_4_4 : Bool) (o_4_5 : Int) (o_4_6 : Int) (operator_5 : Bool) : Option ((Bool × Bool)) :=
  cond (n_1_0 == 2) (Option.bind (t_namesErr_p0 k n_1_0 n_1_1 n_1_2 n_1_3 n_1_4 bad_3) (fun p14 => some ((p14, false)))) (cond (n_1_0 == 3) (Option.bind (t_namesErr_p1 k n_1_0 n_1_1 n_1_2 n_1_3 n_1_4 operator_5 bad_3) (fun p28 => Option.bind (t_namesErr_p2 n_1_0 n_1_1 n_1_2 n_1_3 n_1_4 o_4_0 o_4_1 o_4_2 o_4_3 o_4_4 o_4_5 o_4_6 operator_5) (fun p41 => some ((p28, p41))))) (cond (n_1_0 == 18) (Option.bind (t_namesErr_p3 k n_1_0 n_1_1 n_1_2 n_1_3 n_1_4 bad_3) (fun p54 => some ((p54, false)))) (some ((bad_3, false)))))
def t_namesErr_j4l : List Nat := [3, 6] ++ List.range' 19 51
theorem t_namesErr_j4_W (k : Nat) : ∀ (o_n_1 : Nat) (o_o_4 : Nat) (n_1_0 : Int) (n_1_1 : Int) (n_1_2 : Str) (n_1_3 : List Str) (n_1_4 : List Int) (bad_3 : Bool) (o_4_0 : Str) (o_4_1 : Int) (o_4_2 : Int) (o_4_3 : Int) (o_4_4 : Bool) (o_4_5 : Int) (o_4_6 : Int) (operator_5 : Bool) (σ0 σ : Nat -> PV) (H : AH) (f0 : Fr t_namesErr_j4l σ0 σ) (sl : σ 1 = (.ref (o_n_1) 0) /\ σ 3 = (.bool bad_3) /\ σ 4 = (.ref (o_o_4) 0) /\ σ 5 = (.bool operator_5) /\ σ 6 = (.bool false) /\ H.obj o_n_1 = some [(.int .i64 n_1_0), (.int .i64 n_1_1), (.str n_1_2), (.isl (n_1_3.map strL) .unk), (.isl (n_1_4.map intL) .unk)] /\ H.obj o_o_4 = some [(.str o_4_0), (.int .i64 o_4_1), (.int .i64 o_4_2), (.int .i64 o_4_3), (.bool o_4_4), (.int .i64 o_4_5), (.int .i64 o_4_6)]) (l_o_n_1 : o_n_1 < H.next) (l_o_o_4 : o_o_4 < H.next) (d_o_n_1_o_o_4 : o_n_1 ≠ o_o_4) (o : (Bool × Bool)) (h : t_namesErr_j4 k n_1_0 n_1_1 n_1_2 n_1_3 n_1_4 bad_3 o_4_0 o_4_1 o_4_2 o_4_3 o_4_4 o_4_5 o_4_6 operator_5 = some o) (Q : Post) (q0 : ∀ (p : Bool × Bool) (σ' : Nat -> PV), o = p -> Fr t_namesErr_j4l σ0 σ' -> (σ' 3 = (.bool p.1) /\ σ' 6 = (.bool p.2)) -> Q .normal σ' H) , W Tryz.prog ac93_j4 Q σ H := by
  intro o_n_1 o_o_4 n_1_0 n_1_1 n_1_2 n_1_3 n_1_4 bad_3 o_4_0 o_4_1 o_4_2 o_4_3 o_4_4 o_4_5 o_4_6 operator_5 σ0 σ H f0 sl l_o_n_1 l_o_o_4 d_o_n_1_o_o_4 o h Q q0; obtain ⟨s1, s3, s4, s5, s6, g_o_n_1, g_o_o_4⟩ := sl; have n_o_n_1 := ne_next l_o_n_1; have m_o_n_1 := ne_add l_o_n_1; have n_o_o_4 := ne_next l_o_o_4; have m_o_o_4 := ne_add l_o_o_4; have e_o_n_1_o_o_4 := eq_false d_o_n_1_o_o_4; have r_o_n_1_o_o_4 := eq_false (Ne.symm d_o_n_1_o_o_4); unfold t_namesErr_j4 at h; refine W_start ?_; unfold ac93_j4; rcases cond_E h with ⟨e5, h⟩ | ⟨e5, h⟩
  ·try refine gos_ ?_
   obtain ⟨o12, h13, h⟩ := bind_E h; refine t_namesErr_p0_W k (o_n_1) n_1_0 n_1_1 n_1_2 n_1_3 n_1_4 bad_3 _ _ _ (Fr.refl _ _) sls_ om_ _ h13 _ ?_
   ·rintro p14 σ' eo fr15 s18; rw [eo] at h; have s19 : σ' 1 = (.ref (o_n_1) 0) := (fr15 1 (by decide)).trans sls_; have s20 : σ' 6 = (.bool false) := (fr15 6 (by decide)).trans sls_; obtain rfl := som_E h; try refine gos_ ?_
    exact q0 _ _ rfl (by repeat (first | exact f0 | refine Fr.upd (by decide) ?_ | refine Fr.via fr15 (by decide) ?_)) sls_
  ·rcases cond_E h with ⟨e21, h⟩ | ⟨e21, h⟩
   ·try refine gos_ ?_
    obtain ⟨o26, h27, h⟩ := bind_E h; refine t_namesErr_p1_W k (o_n_1) n_1_0 n_1_1 n_1_2 n_1_3 n_1_4 operator_5 bad_3 _ _ _ (Fr.refl _ _) sls_ om_ _ h27 _ ?_
    ·rintro p28 σ' eo fr29 s32; rw [eo] at h; have s33 : σ' 1 = (.ref (o_n_1) 0) := (fr29 1 (by decide)).trans sls_; have s34 : σ' 4 = (.ref (o_o_4) 0) := (fr29 4 (by decide)).trans sls_; have s35 : σ' 5 = (.bool operator_5) := (fr29 5 (by decide)).trans sls_; try refine gos_ ?_
     obtain ⟨o39, h40, h⟩ := bind_E h; refine t_namesErr_p2_W (o_n_1) (o_o_4) n_1_0 n_1_1 n_1_2 n_1_3 n_1_4 o_4_0 o_4_1 o_4_2 o_4_3 o_4_4 o_4_5 o_4_6 operator_5 _ _ _ (Fr.refl _ _) sls_ om_ om_ om_ _ h40 _ ?_
     ·rintro p41 σ' eo fr42 s45; rw [eo] at h; have s46 : σ' 1 = (.ref (o_n_1) 0) := (fr42 1 (by decide)).trans sls_; have s47 : σ' 3 = (.bool p28) := (fr42 3 (by decide)).trans sls_; obtain rfl := som_E h; try refine gos_ ?_
      exact q0 _ _ rfl (by repeat (first | exact f0 | refine Fr.upd (by decide) ?_ | refine Fr.via fr29 (by decide) ?_ | refine Fr.via fr42 (by decide) ?_)) sls_
   ·rcases cond_E h with ⟨e48, h⟩ | ⟨e48, h⟩
    ·try refine gos_ ?_
     obtain ⟨o52, h53, h⟩ := bind_E h; refine t_namesErr_p3_W k (o_n_1) n_1_0 n_1_1 n_1_2 n_1_3 n_1_4 bad_3 _ _ _ (Fr.refl _ _) sls_ om_ _ h53 _ ?_
     ·rintro p54 σ' eo fr55 s58; rw [eo] at h; have s59 : σ' 1 = (.ref (o_n_1) 0) := (fr55 1 (by decide)).trans sls_; have s60 : σ' 6 = (.bool false) := (fr55 6 (by decide)).trans sls_; obtain rfl := som_E h; try refine gos_ ?_
      exact q0 _ _ rfl (by repeat (first | exact f0 | refine Fr.upd (by decide) ?_ | refine Fr.via fr55 (by decide) ?_)) sls_
    ·obtain rfl := som_E h; try refine gos_ ?_
     exact q0 _ _ rfl fr_ sls_
def t_namesErr_b0 : Nat -> Int -> Int -> Str -> (List Str) -> (List Int) -> Bool -> (List Str) -> Int -> Int -> Option Bool
  | 0, _, _, _, _, _, _, _, _, _ => none
  | k + 1, n_1_0, n_1_1, n_1_2, n_1_3, n_1_4, again_7, t_71, t_72, t_73 =>
    cond (decide (t_73 < t_72)) (if 0 <= t_73 then Option.bind (t_71[t_73.toNat]?) fun x72 => cond again_7 (t_namesErr_b0 k n_1_0 n_1_1 n_1_2 n_1_3 n_1_4 true t_71 t_72 (IntKind.wrap .i64 (t_73 + 1))) (if 0 <= t_73 /\ t_73.toNat <= n_1_3.length then Option.bind (g_Contains_string_string k (n_1_3.take t_73.toNat) x72) fun p77 => t_namesErr_b0 k n_1_0 n_1_1 n_1_2 n_1_3 n_1_4 p77 t_71 t_72 (IntKind.wrap .i64 (t_73 + 1)) else none) else none) (some (again_7))
def t_namesErr_b0l : List Nat := [7, 8, 9] ++ List.range' 73 15
theorem t_namesErr_b0_W : ∀ (k : Nat) (o_n_1 : Nat) (n_1_0 : Int) (n_1_1 : Int) (n_1_2 : Str) (n_1_3 : List Str) (n_1_4 : List Int) (again_7 : Bool) (t_71 : List Str) (t_72 : Int) (t_73 : Int) (σ0 σ : Nat -> PV) (H : AH) (f0 : Fr t_namesErr_b0l σ0 σ) (sl : σ 1 = (.ref (o_n_1) 0) /\ σ 7 = (.bool again_7) /\ σ 71 = (.isl (t_71.map strL) .unk) /\ σ 72 = (.int .i64 t_72) /\ σ 73 = (.int .i64 t_73) /\ H.obj o_n_1 = some [(.int .i64 n_1_0), (.int .i64 n_1_1), (.str n_1_2), (.isl (n_1_3.map strL) .unk), (.isl (n_1_4.map intL) .unk)]) (l_o_n_1 : o_n_1 < H.next) (o : Bool) (h : t_namesErr_b0 k n_1_0 n_1_1 n_1_2 n_1_3 n_1_4 again_7 t_71 t_72 t_73 = some o) (Q : Post) (q0 : ∀ (p : Bool) (σ' : Nat -> PV), o = p -> Fr t_namesErr_b0l σ0 σ' -> (σ' 7 = (.bool p)) -> Q (.exit 1) σ' H) , W Tryz.prog (.loop ac93_b0) Q σ H := by
  intro k
  induction k with
  | zero => intro o_n_1 n_1_0 n_1_1 n_1_2 n_1_3 n_1_4 again_7 t_71 t_72 t_73 σ0 σ H f0 sl l_o_n_1 o h Q q0; simp only [t_namesErr_b0, reduceCtorEq] at h
  | succ k ih =>
    intro o_n_1 n_1_0 n_1_1 n_1_2 n_1_3 n_1_4 again_7 t_71 t_72 t_73 σ0 σ H f0 sl l_o_n_1 o h Q q0; obtain ⟨s1, s7, s71, s72, s73, g_o_n_1⟩ := sl; have n_o_n_1 := ne_next l_o_n_1; have m_o_n_1 := ne_add l_o_n_1; unfold t_namesErr_b0 at h; refine W_loopK (fun K hK => W_start ?_); unfold ac93_b0; rcases cond_E h with ⟨e70, h⟩ | ⟨e70, h⟩
    ·obtain ⟨e71, h⟩ := if_E h; obtain ⟨x72, e73, h⟩ := bind_E h; rcases cond_E h with ⟨e74, h⟩ | ⟨e74, h⟩
     ·try refine gos_ ?_
      refine hK _ _ ?_; exact ih o_n_1 n_1_0 n_1_1 n_1_2 n_1_3 n_1_4 true t_71 t_72 (IntKind.wrap .i64 (t_73 + 1)) _ _ _ fr_ sls_ om_ _ h _ q0
     ·obtain ⟨e75, h⟩ := if_E h; obtain ⟨p77, e76, h⟩ := bind_E h; try refine gos_ ?_
      refine mcall_pure (g_Contains_string_string_c e76) ?_; try refine gos_ ?_
      refine hK _ _ ?_; exact ih o_n_1 n_1_0 n_1_1 n_1_2 n_1_3 n_1_4 p77 t_71 t_72 (IntKind.wrap .i64 (t_73 + 1)) _ _ _ fr_ sls_ om_ _ h _ q0
    ·obtain rfl := som_E h; try refine gos_ ?_
     exact q0 _ _ rfl fr_ sls_
def t_namesErr (k : Nat) (n_0 : Nd) : Option Int :=
  Option.bind (g_ContainsFunc_string_string_at145 k n_0.names) fun p2 => Option.bind (t_operatorOf k n_0.text) fun p4 => Option.bind (t_namesErr_j4 k n_0.kind n_0.n n_0.text n_0.names n_0.args p2 p4.1.text p4.1.fix p4.1.low p4.1.high p4.1.left p4.1.least p4.1.most p4.2) (fun p63 => Option.bind (t_namesErr_b0 k n_0.kind n_0.n n_0.text n_0.names n_0.args false n_0.names (n_0.names.length : Int) 0) (fun p80 => Option.bind (t_wrong p63.1 7) fun p88 => Option.bind (t_wrong p63.2 17) fun p90 => Option.bind (t_wrong p80 12) fun p92 => Option.bind (g_Or_api_Errno k [p88, p90, p92]) fun p94 => some p94))
theorem t_namesErr_c {k : Nat} {n_0 : Nd} {r : Int} (h : t_namesErr k n_0 = some r) : PCall Tryz.prog 93 [(.agg (Nd.cells n_0))] (.int .i64 r) := by
  refine PCall.of_empty (PuL.mem (.cons (.agg _ (Nd.pu _)) .nil)) (MCall_of_W ok93 (by simp) (W_start ?_)) (.int _ _); unfold t_namesErr at h; unfold ac93; obtain ⟨p2, e1, h⟩ := bind_E h; try refine gos_ ?_
  refine mcall_pure (g_ContainsFunc_string_string_at145_c e1) ?_; obtain ⟨p4, e3, h⟩ := bind_E h; try refine gos_ ?_
  refine mcall_pure (t_operatorOf_c e3) ?_; try refine gos_ ?_
  obtain ⟨o61, h62, h⟩ := bind_E h; refine t_namesErr_j4_W k (AH.empty.next) (AH.empty.next + 1) n_0.kind n_0.n n_0.text n_0.names n_0.args p2 p4.1.text p4.1.fix p4.1.low p4.1.high p4.1.left p4.1.least p4.1.most p4.2 _ _ _ (Fr.refl _ _) sls_ om_ om_ om_ _ h62 _ ?_
  ·rintro p63 σ' eo fr64 ⟨s67, s68⟩; rw [eo] at h; have s69 : σ' 1 = (.ref (AH.empty.next) 0) := (fr64 1 (by decide)).trans sls_; try refine gos_ ?_
   obtain ⟨o78, h79, h⟩ := bind_E h; refine t_namesErr_b0_W k (AH.empty.next) n_0.kind n_0.n n_0.text n_0.names n_0.args false n_0.names (n_0.names.length : Int) 0 _ _ _ (Fr.refl _ _) sls_ om_ _ h79 _ ?_
   ·rintro p80 σ' eo fr81 s84; rw [eo] at h; have s85 : σ' 3 = (.bool p63.1) := (fr81 3 (by decide)).trans sls_; have s86 : σ' 6 = (.bool p63.2) := (fr81 6 (by decide)).trans sls_; obtain ⟨p88, e87, h⟩ := bind_E h; try refine gos_ ?_
    refine mcall_pure (t_wrong_c e87) ?_; obtain ⟨p90, e89, h⟩ := bind_E h; try refine gos_ ?_
    refine mcall_pure (t_wrong_c e89) ?_; obtain ⟨p92, e91, h⟩ := bind_E h; try refine gos_ ?_
    refine mcall_pure (t_wrong_c e91) ?_; obtain ⟨p94, e93, h⟩ := bind_E h; try refine gos_ ?_
    refine mcall_pure (g_Or_api_Errno_c e93) ?_; obtain rfl := som_E h; try refine gos_ ?_
    exact (.pure _ (.int _ _))
def t_nodeErr_p0 (n_7_0 : Int) (n_7_1 : Int) (n_7_2 : Str) (n_7_3 : List Str) (n_7_4 : List Int) (x_8_0 : Int) (x_8_1 : Int) (x_8_2 : Int) (x_8_3 : Int) (x_8_4 : Bool) (x_8_5 : Bool) (t_36 : Bool) : Option Bool :=
  cond t_36 (some (true)) (Option.bind (t_spans (n_7_4.length : Int) x_8_2 x_8_3) fun p13 => some ((!p13)))
def t_nodeErr_p0l : List Nat := List.range' 37 12
theorem t_nodeErr_p0_W : ∀ (o_n_7 : Nat) (o_x_8 : Nat) (n_7_0 : Int) (n_7_1 : Int) (n_7_2 : Str) (n_7_3 : List Str) (n_7_4 : List Int) (x_8_0 : Int) (x_8_1 : Int) (x_8_2 : Int) (x_8_3 : Int) (x_8_4 : Bool) (x_8_5 : Bool) (t_36 : Bool) (σ0 σ : Nat -> PV) (H : AH) (f0 : Fr t_nodeErr_p0l σ0 σ) (sl : σ 7 = (.ref (o_n_7) 0) /\ σ 8 = (.ref (o_x_8) 0) /\ σ 36 = (.bool t_36) /\ H.obj o_n_7 = some [(.int .i64 n_7_0), (.int .i64 n_7_1), (.str n_7_2), (.isl (n_7_3.map strL) .unk), (.isl (n_7_4.map intL) .unk)] /\ H.obj o_x_8 = some [(.int .i64 x_8_0), (.int .i64 x_8_1), (.int .i64 x_8_2), (.int .i64 x_8_3), (.bool x_8_4), (.bool x_8_5)]) (l_o_n_7 : o_n_7 < H.next) (l_o_x_8 : o_x_8 < H.next) (d_o_n_7_o_x_8 : o_n_7 ≠ o_x_8) (o : Bool) (h : t_nodeErr_p0 n_7_0 n_7_1 n_7_2 n_7_3 n_7_4 x_8_0 x_8_1 x_8_2 x_8_3 x_8_4 x_8_5 t_36 = some o) (Q : Post) (q0 : ∀ (p : Bool) (σ' : Nat -> PV), o = p -> Fr t_nodeErr_p0l σ0 σ' -> (σ' 48 = (.bool p)) -> Q .normal σ' H) , WOps Tryz.prog ac48_p0 (Q .normal) σ H := by
  intro o_n_7 o_x_8 n_7_0 n_7_1 n_7_2 n_7_3 n_7_4 x_8_0 x_8_1 x_8_2 x_8_3 x_8_4 x_8_5 t_36 σ0 σ H f0 sl l_o_n_7 l_o_x_8 d_o_n_7_o_x_8 o h Q q0; obtain ⟨s7, s8, s36, g_o_n_7, g_o_x_8⟩ := sl; have n_o_n_7 := ne_next l_o_n_7; have m_o_n_7 := ne_add l_o_n_7; have n_o_x_8 := ne_next l_o_x_8; have m_o_x_8 := ne_add l_o_x_8; have e_o_n_7_o_x_8 := eq_false d_o_n_7_o_x_8; have r_o_n_7_o_x_8 := eq_false (Ne.symm d_o_n_7_o_x_8); unfold t_nodeErr_p0 at h; refine WO_start ?_; unfold ac48_p0; rcases cond_E h with ⟨e11, h⟩ | ⟨e11, h⟩
  ·obtain rfl := som_E h; try refine gos_ ?_
   exact q0 _ _ rfl fr_ sls_
  ·obtain ⟨p13, e12, h⟩ := bind_E h; try refine gos_ ?_
   refine mcall_pure (t_spans_c e12) ?_; obtain rfl := som_E h; try refine gos_ ?_
   exact q0 _ _ rfl fr_ sls_
def t_nodeErr_r1 : Nat -> (List Int) -> Int -> Bool -> (List Int) -> Option ((Int × Bool) ⊕ (Int × Bool))
  | 0, begins_5_0, end_9_0, together_10_0, t_53_0_0 => some (.inr ((end_9_0, together_10_0)))
  | m + 1, begins_5_0, end_9_0, together_10_0, t_53_0_0 =>
    Option.bind (t_53_0_0[m]?) fun x27 => cond (x27 != end_9_0) (some (.inl (end_9_0, false))) (cond (decide (end_9_0 < 0)) (some (.inl (end_9_0, false))) (if 0 <= end_9_0 then Option.bind (begins_5_0[end_9_0.toNat]?) fun x31 => t_nodeErr_r1 m begins_5_0 (IntKind.wrap .i64 (x31 - 1)) together_10_0 t_53_0_0 else none))
theorem t_nodeErr_r1_W : ∀ (m : Nat) (o_begins_5 : Nat) (o_end_9 : Nat) (o_together_10 : Nat) (o_t_53_0 : Nat) (begins_5_0 : List Int) (end_9_0 : Int) (together_10_0 : Bool) (t_53_0_0 : List Int) (σ0 σ : Nat -> PV) (H0 H : AH) (f0 : Fr [] σ0 σ) (hf0 : HF [o_end_9, o_together_10] H0 H) (sl : σ 5 = (.ref (o_begins_5) 0) /\ σ 9 = (.ref (o_end_9) 0) /\ σ 10 = (.ref (o_together_10) 0) /\ σ 53 = (.fn (.func 141) [] [(.ref (o_t_53_0) 0)]) /\ H.obj o_begins_5 = some [(.isl (begins_5_0.map intL) .unk)] /\ H.obj o_end_9 = some [(.int .i64 end_9_0)] /\ H.obj o_together_10 = some [(.bool together_10_0)] /\ H.obj o_t_53_0 = some [(.isl (t_53_0_0.map intL) .unk)]) (l_o_begins_5 : o_begins_5 < H.next) (l_o_end_9 : o_end_9 < H.next) (l_o_together_10 : o_together_10 < H.next) (l_o_t_53_0 : o_t_53_0 < H.next) (d_o_begins_5_o_end_9 : o_begins_5 ≠ o_end_9) (d_o_begins_5_o_together_10 : o_begins_5 ≠ o_together_10) (d_o_begins_5_o_t_53_0 : o_begins_5 ≠ o_t_53_0) (d_o_end_9_o_together_10 : o_end_9 ≠ o_together_10) (d_o_end_9_o_t_53_0 : o_end_9 ≠ o_t_53_0) (d_o_together_10_o_t_53_0 : o_together_10 ≠ o_t_53_0) (o : (Int × Bool) ⊕ (Int × Bool)) (h : t_nodeErr_r1 m begins_5_0 end_9_0 together_10_0 t_53_0_0 = some o) (Q : Post) (q0 : ∀ (p : Int × Bool) (σ' : Nat -> PV) (H' : AH), o = .inl p -> Fr [] σ0 σ' -> HF [o_end_9, o_together_10] H0 H' -> (H'.obj o_end_9 = some [(.int .i64 p.1)] /\ H'.obj o_together_10 = some [(.bool p.2)]) -> Q (.exit 0) σ' H') (q1 : ∀ (p : Int × Bool) (σ' : Nat -> PV) (H' : AH), o = .inr (p) -> Fr [] σ0 σ' -> HF [o_end_9, o_together_10] H0 H' -> (H'.obj o_end_9 = some [(.int .i64 p.1)] /\ H'.obj o_together_10 = some [(.bool p.2)]) -> Q .normal σ' H') , BackW (fun Q' σ' H' => W Tryz.prog ac48_r1a (thenF (fun σ'' H'' => W Tryz.prog ac48_r1b Q' σ'' H'')) σ' H') Q σ o_t_53_0 [(.isl (t_53_0_0.map intL) .unk)] 54 55 ((t_53_0_0.map intL).map (elemP false)) m H := by
  intro m
  induction m with
  | zero =>
    intro o_begins_5 o_end_9 o_together_10 o_t_53_0 begins_5_0 end_9_0 together_10_0 t_53_0_0 σ0 σ H0 H f0 hf0 sl l_o_begins_5 l_o_end_9 l_o_together_10 l_o_t_53_0 d_o_begins_5_o_end_9 d_o_begins_5_o_together_10 d_o_begins_5_o_t_53_0 d_o_end_9_o_together_10 d_o_end_9_o_t_53_0 d_o_together_10_o_t_53_0 o h Q q0 q1; obtain ⟨s5, s9, s10, s53, g_o_begins_5, g_o_end_9, g_o_together_10, g_o_t_53_0⟩ := sl; have n_o_begins_5 := ne_next l_o_begins_5; have m_o_begins_5 := ne_add l_o_begins_5; have n_o_end_9 := ne_next l_o_end_9; have m_o_end_9 := ne_add l_o_end_9; have n_o_together_10 := ne_next l_o_together_10; have m_o_together_10 := ne_add l_o_together_10; have n_o_t_53_0 := ne_next l_o_t_53_0; have m_o_t_53_0 := ne_add l_o_t_53_0; have e_o_begins_5_o_end_9 := eq_false d_o_begins_5_o_end_9; have r_o_begins_5_o_end_9 := eq_false (Ne.symm d_o_begins_5_o_end_9); have e_o_begins_5_o_together_10 := eq_false d_o_begins_5_o_together_10; have r_o_begins_5_o_together_10 := eq_false (Ne.symm d_o_begins_5_o_together_10); have e_o_begins_5_o_t_53_0 := eq_false d_o_begins_5_o_t_53_0; have r_o_begins_5_o_t_53_0 := eq_false (Ne.symm d_o_begins_5_o_t_53_0); have e_o_end_9_o_together_10 := eq_false d_o_end_9_o_together_10; have r_o_end_9_o_together_10 := eq_false (Ne.symm d_o_end_9_o_together_10); have e_o_end_9_o_t_53_0 := eq_false d_o_end_9_o_t_53_0; have r_o_end_9_o_t_53_0 := eq_false (Ne.symm d_o_end_9_o_t_53_0); have e_o_together_10_o_t_53_0 := eq_false d_o_together_10_o_t_53_0; have r_o_together_10_o_t_53_0 := eq_false (Ne.symm d_o_together_10_o_t_53_0); have hle0 := hf0.1; rw [t_nodeErr_r1] at h; cases h; exact q1 _ _ _ rfl f0 hf0 sls_
  | succ m ih =>
    intro o_begins_5 o_end_9 o_together_10 o_t_53_0 begins_5_0 end_9_0 together_10_0 t_53_0_0 σ0 σ H0 H f0 hf0 sl l_o_begins_5 l_o_end_9 l_o_together_10 l_o_t_53_0 d_o_begins_5_o_end_9 d_o_begins_5_o_together_10 d_o_begins_5_o_t_53_0 d_o_end_9_o_together_10 d_o_end_9_o_t_53_0 d_o_together_10_o_t_53_0 o h Q q0 q1; obtain ⟨s5, s9, s10, s53, g_o_begins_5, g_o_end_9, g_o_together_10, g_o_t_53_0⟩ := sl; have n_o_begins_5 := ne_next l_o_begins_5; have m_o_begins_5 := ne_add l_o_begins_5; have n_o_end_9 := ne_next l_o_end_9; have m_o_end_9 := ne_add l_o_end_9; have n_o_together_10 := ne_next l_o_together_10; have m_o_together_10 := ne_add l_o_together_10; have n_o_t_53_0 := ne_next l_o_t_53_0; have m_o_t_53_0 := ne_add l_o_t_53_0; have e_o_begins_5_o_end_9 := eq_false d_o_begins_5_o_end_9; have r_o_begins_5_o_end_9 := eq_false (Ne.symm d_o_begins_5_o_end_9); have e_o_begins_5_o_together_10 := eq_false d_o_begins_5_o_together_10; have r_o_begins_5_o_together_10 := eq_false (Ne.symm d_o_begins_5_o_together_10); have e_o_begins_5_o_t_53_0 := eq_false d_o_begins_5_o_t_53_0; have r_o_begins_5_o_t_53_0 := eq_false (Ne.symm d_o_begins_5_o_t_53_0); have e_o_end_9_o_together_10 := eq_false d_o_end_9_o_together_10; have r_o_end_9_o_together_10 := eq_false (Ne.symm d_o_end_9_o_together_10); have e_o_end_9_o_t_53_0 := eq_false d_o_end_9_o_t_53_0; have r_o_end_9_o_t_53_0 := eq_false (Ne.symm d_o_end_9_o_t_53_0); have e_o_together_10_o_t_53_0 := eq_false d_o_together_10_o_t_53_0; have r_o_together_10_o_t_53_0 := eq_false (Ne.symm d_o_together_10_o_t_53_0); have hle0 := hf0.1; rw [t_nodeErr_r1] at h; cases erf : t_53_0_0[m]?
    case none => rw [bind_N erf] at h; cases h
    case some x27 =>
      rw [bind_S erf] at h; refine ⟨g_o_t_53_0, elemP false (intL x27), by simp only [List.getElem?_map, erf, Option.map_some], W_start ?_⟩; unfold ac48_r1a; try refine gos_ ?_
      refine W_start ?_; unfold ac48_r1b; rcases cond_E h with ⟨e28, h⟩ | ⟨e28, h⟩
      ·obtain rfl := som_E h; try refine gos_ ?_
       exact q0 _ _ _ rfl fr_ (by repeat (first | exact hf0 | refine HF.new ?_ | refine HF.tokd ?_ | refine HF.used ?_ | refine HF.put (by first | (right; omega) | (left; simp only [List.mem_cons, true_or, or_true])) ?_)) sls_
      ·rcases cond_E h with ⟨e29, h⟩ | ⟨e29, h⟩
       ·obtain rfl := som_E h; try refine gos_ ?_
        exact q0 _ _ _ rfl fr_ (by repeat (first | exact hf0 | refine HF.new ?_ | refine HF.tokd ?_ | refine HF.used ?_ | refine HF.put (by first | (right; omega) | (left; simp only [List.mem_cons, true_or, or_true])) ?_)) sls_
       ·obtain ⟨e30, h⟩ := if_E h; obtain ⟨x31, e32, h⟩ := bind_E h; try refine gos_ ?_
        exact ih o_begins_5 o_end_9 o_together_10 o_t_53_0 begins_5_0 (IntKind.wrap .i64 (x31 - 1)) together_10_0 t_53_0_0 _ _ _ _ f0 (by repeat (first | exact hf0 | refine HF.new ?_ | refine HF.tokd ?_ | refine HF.used ?_ | refine HF.put (by first | (right; omega) | (left; simp only [List.mem_cons, true_or, or_true])) ?_)) sls_ om_ om_ om_ om_ om_ om_ om_ om_ om_ om_ _ h _ q0 q1
def t_nodeErr_j2 (begins_5_0 : List Int) (n_7_0 : Int) (n_7_1 : Int) (n_7_2 : Str) (n_7_3 : List Str) (n_7_4 : List Int) (end_9_0 : Int) (together_10_0 : Bool) : Option ((Int × Bool)) :=
  if n_7_4.length <= 1099511627776 then Option.bind (t_nodeErr_r1 n_7_4.length begins_5_0 end_9_0 together_10_0 n_7_4) (fun o => Sum.elim (fun p35 => some ((p35.1, p35.2))) (fun p49 => some ((p49.1, p49.2))) o) else none
def t_nodeErr_j2l : List Nat := [12] ++ List.range' 51 17
theorem t_nodeErr_j2_W : ∀ (o_begins_5 : Nat) (o_n_7 : Nat) (o_end_9 : Nat) (o_together_10 : Nat) (begins_5_0 : List Int) (n_7_0 : Int) (n_7_1 : Int) (n_7_2 : Str) (n_7_3 : List Str) (n_7_4 : List Int) (end_9_0 : Int) (together_10_0 : Bool) (σ0 σ : Nat -> PV) (H0 H : AH) (f0 : Fr t_nodeErr_j2l σ0 σ) (hf0 : HF [o_end_9, o_together_10] H0 H) (sl : σ 5 = (.ref (o_begins_5) 0) /\ σ 7 = (.ref (o_n_7) 0) /\ σ 9 = (.ref (o_end_9) 0) /\ σ 10 = (.ref (o_together_10) 0) /\ H.obj o_begins_5 = some [(.isl (begins_5_0.map intL) .unk)] /\ H.obj o_n_7 = some [(.int .i64 n_7_0), (.int .i64 n_7_1), (.str n_7_2), (.isl (n_7_3.map strL) .unk), (.isl (n_7_4.map intL) .unk)] /\ H.obj o_end_9 = some [(.int .i64 end_9_0)] /\ H.obj o_together_10 = some [(.bool together_10_0)]) (l_o_begins_5 : o_begins_5 < H.next) (l_o_n_7 : o_n_7 < H.next) (l_o_end_9 : o_end_9 < H.next) (l_o_together_10 : o_together_10 < H.next) (d_o_begins_5_o_n_7 : o_begins_5 ≠ o_n_7) (d_o_begins_5_o_end_9 : o_begins_5 ≠ o_end_9) (d_o_begins_5_o_together_10 : o_begins_5 ≠ o_together_10) (d_o_n_7_o_end_9 : o_n_7 ≠ o_end_9) (d_o_n_7_o_together_10 : o_n_7 ≠ o_together_10) (d_o_end_9_o_together_10 : o_end_9 ≠ o_together_10) (o : (Int × Bool)) (h : t_nodeErr_j2 begins_5_0 n_7_0 n_7_1 n_7_2 n_7_3 n_7_4 end_9_0 together_10_0 = some o) (Q : Post) (q0 : ∀ (p : Int × Bool) (σ' : Nat -> PV) (H' : AH), o = p -> Fr t_nodeErr_j2l σ0 σ' -> HF [o_end_9, o_together_10] H0 H' -> (H'.obj o_end_9 = some [(.int .i64 p.1)] /\ H'.obj o_together_10 = some [(.bool p.2)]) -> Q .normal σ' H') , W Tryz.prog ac48_j2 Q σ H := by
  intro o_begins_5 o_n_7 o_end_9 o_together_10 begins_5_0 n_7_0 n_7_1 n_7_2 n_7_3 n_7_4 end_9_0 together_10_0 σ0 σ H0 H f0 hf0 sl l_o_begins_5 l_o_n_7 l_o_end_9 l_o_together_10 d_o_begins_5_o_n_7 d_o_begins_5_o_end_9 d_o_begins_5_o_together_10 d_o_n_7_o_end_9 d_o_n_7_o_together_10 d_o_end_9_o_together_10 o h Q q0; obtain ⟨s5, s7, s9, s10, g_o_begins_5, g_o_n_7, g_o_end_9, g_o_together_10⟩ := sl; have n_o_begins_5 := ne_next l_o_begins_5; have m_o_begins_5 := ne_add l_o_begins_5; have n_o_n_7 := ne_next l_o_n_7; have m_o_n_7 := ne_add l_o_n_7; have n_o_end_9 := ne_next l_o_end_9; have m_o_end_9 := ne_add l_o_end_9; have n_o_together_10 := ne_next l_o_together_10; have m_o_together_10 := ne_add l_o_together_10; have e_o_begins_5_o_n_7 := eq_false d_o_begins_5_o_n_7; have r_o_begins_5_o_n_7 := eq_false (Ne.symm d_o_begins_5_o_n_7); have e_o_begins_5_o_end_9 := eq_false d_o_begins_5_o_end_9; have r_o_begins_5_o_end_9 := eq_false (Ne.symm d_o_begins_5_o_end_9); have e_o_begins_5_o_together_10 := eq_false d_o_begins_5_o_together_10; have r_o_begins_5_o_together_10 := eq_false (Ne.symm d_o_begins_5_o_together_10); have e_o_n_7_o_end_9 := eq_false d_o_n_7_o_end_9; have r_o_n_7_o_end_9 := eq_false (Ne.symm d_o_n_7_o_end_9); have e_o_n_7_o_together_10 := eq_false d_o_n_7_o_together_10; have r_o_n_7_o_together_10 := eq_false (Ne.symm d_o_n_7_o_together_10); have e_o_end_9_o_together_10 := eq_false d_o_end_9_o_together_10; have r_o_end_9_o_together_10 := eq_false (Ne.symm d_o_end_9_o_together_10); have hle0 := hf0.1; unfold t_nodeErr_j2 at h; refine W_start ?_; unfold ac48_j2; try refine gos_ ?_
  refine MCall_of_W ok91 (by simp) (W_start ?_); unfold ac91; obtain ⟨e63, h⟩ := if_E h; try refine gos_ ?_
  obtain ⟨o33, h34, h⟩ := bind_E h; refine WS_rf (g := 141) (id := H.next) (sz := 1) (agg := false) (es := n_7_4.map intL) (c := .unk) sls_ enters141 backs141 (by decide) sls_ (by rw [List.length_map]; exact e63) (lenOk_map (RowF.len (f := intL)) _) ?_; rw [List.length_map]; refine t_nodeErr_r1_W _ (o_begins_5) (o_end_9) (o_together_10) (H.next) begins_5_0 end_9_0 together_10_0 n_7_4 _ _ _ _ (Fr.refl _ _) (HF.refl _ _) sls_ om_ om_ om_ om_ om_ om_ om_ om_ om_ om_ _ h34 _ ?_ ?_
  ·rintro p35 σ' H38 eo fr36 hf37 ⟨g39, g40⟩; subst eo; rw [sum_L] at h; have s41 : σ' 7 = (.ref (o_n_7) 0) := (fr36 7 (by decide)).trans sls_; have s42 : σ' 10 = (.ref (o_together_10) 0) := (fr36 10 (by decide)).trans sls_; have le := hf37.1; try simp only [AH.new_next, AH.put_next, AH.tok_next, AH.use_next] at le
   have g43 : H38.obj (o_n_7) = some [(.int .i64 n_7_0), (.int .i64 n_7_1), (.str n_7_2), (.isl (n_7_3.map strL) .unk), (.isl (n_7_4.map intL) .unk)] := (hf37.2 _ om_ (by first | exact List.not_mem_nil | (simp only [List.mem_cons, List.not_mem_nil, or_false, not_or]; omega))).trans sls_; have n44 := ne_next (show o_n_7 < H38.next by first | omega | (simp only [AH.new_next, AH.put_next, AH.tok_next, AH.use_next]; omega)); have m45 := ne_add (show o_n_7 < H38.next by first | omega | (simp only [AH.new_next, AH.put_next, AH.tok_next, AH.use_next]; omega)); have n47 := ne_next (show o_together_10 < H38.next by first | omega | (simp only [AH.new_next, AH.put_next, AH.tok_next, AH.use_next]; omega)); have m48 := ne_add (show o_together_10 < H38.next by first | omega | (simp only [AH.new_next, AH.put_next, AH.tok_next, AH.use_next]; omega)); obtain rfl := som_E h; try refine gos_ ?_
   exact q0 _ _ _ rfl (by repeat (first | exact f0 | refine Fr.upd (by decide) ?_ | refine Fr.via fr36 (by decide) ?_)) (by repeat (first | exact hf0 | refine HF.new ?_ | refine HF.tokd ?_ | refine HF.used ?_ | refine HF.put (by first | (right; omega) | (left; simp only [List.mem_cons, true_or, or_true])) ?_ | refine HF.via hf37 (by first | exact fun i hi => absurd hi List.not_mem_nil | (intro i hi; simp only [List.mem_cons, List.not_mem_nil, or_false] at hi ⊢; first | exact .inl hi | omega)) ?_)) sls_
  ·rintro p49 σ' H52 eo fr50 hf51 ⟨g53, g54⟩; subst eo; rw [sum_R] at h; have s55 : σ' 7 = (.ref (o_n_7) 0) := (fr50 7 (by decide)).trans sls_; have s56 : σ' 10 = (.ref (o_together_10) 0) := (fr50 10 (by decide)).trans sls_; have le := hf51.1; try simp only [AH.new_next, AH.put_next, AH.tok_next, AH.use_next] at le
   have g57 : H52.obj (o_n_7) = some [(.int .i64 n_7_0), (.int .i64 n_7_1), (.str n_7_2), (.isl (n_7_3.map strL) .unk), (.isl (n_7_4.map intL) .unk)] := (hf51.2 _ om_ (by first | exact List.not_mem_nil | (simp only [List.mem_cons, List.not_mem_nil, or_false, not_or]; omega))).trans sls_; have n58 := ne_next (show o_n_7 < H52.next by first | omega | (simp only [AH.new_next, AH.put_next, AH.tok_next, AH.use_next]; omega)); have m59 := ne_add (show o_n_7 < H52.next by first | omega | (simp only [AH.new_next, AH.put_next, AH.tok_next, AH.use_next]; omega)); have n61 := ne_next (show o_together_10 < H52.next by first | omega | (simp only [AH.new_next, AH.put_next, AH.tok_next, AH.use_next]; omega)); have m62 := ne_add (show o_together_10 < H52.next by first | omega | (simp only [AH.new_next, AH.put_next, AH.tok_next, AH.use_next]; omega)); obtain rfl := som_E h; try refine gos_ ?_
   exact q0 _ _ _ rfl (by repeat (first | exact f0 | refine Fr.upd (by decide) ?_ | refine Fr.via fr50 (by decide) ?_)) (by repeat (first | exact hf0 | refine HF.new ?_ | refine HF.tokd ?_ | refine HF.used ?_ | refine HF.put (by first | (right; omega) | (left; simp only [List.mem_cons, true_or, or_true])) ?_ | refine HF.via hf51 (by first | exact fun i hi => absurd hi List.not_mem_nil | (intro i hi; simp only [List.mem_cons, List.not_mem_nil, or_false] at hi ⊢; first | exact .inl hi | omega)) ?_)) sls_
def t_nodeErr_p3 (n_7_0 : Int) (n_7_1 : Int) (n_7_2 : Str) (n_7_3 : List Str) (n_7_4 : List Int) (x_8_0 : Int) (x_8_1 : Int) (x_8_2 : Int) (x_8_3 : Int) (x_8_4 : Bool) (x_8_5 : Bool) (let_13 : Bool) (t_73 : Bool) : Option Bool :=
  cond t_73 (cond x_8_5 (cond (n_7_0 != 1) (cond let_13 (Option.bind (t_spans n_7_1 0 1) fun p89 => some (p89)) (some (true))) (Option.bind (t_isText n_7_2) fun p91 => cond p91 (cond let_13 (Option.bind (t_spans n_7_1 0 1) fun p95 => some (p95)) (some (true))) (some (false)))) (cond (n_7_1 == 0) (cond (n_7_0 != 1) (cond let_13 (Option.bind (t_spans n_7_1 0 1) fun p100 => some (p100)) (some (true))) (Option.bind (t_isText n_7_2) fun p102 => cond p102 (cond let_13 (Option.bind (t_spans n_7_1 0 1) fun p106 => some (p106)) (some (true))) (some (false)))) (some (false)))) (cond (n_7_2 == []) (cond x_8_5 (cond (n_7_0 != 1) (cond let_13 (Option.bind (t_spans n_7_1 0 1) fun p112 => some (p112)) (some (true))) (Option.bind (t_isText n_7_2) fun p114 => cond p114 (cond let_13 (Option.bind (t_spans n_7_1 0 1) fun p118 => some (p118)) (some (true))) (some (false)))) (cond (n_7_1 == 0) (cond (n_7_0 != 1) (cond let_13 (Option.bind (t_spans n_7_1 0 1) fun p123 => some (p123)) (some (true))) (Option.bind (t_isText n_7_2) fun p125 => cond p125 (cond let_13 (Option.bind (t_spans n_7_1 0 1) fun p129 => some (p129)) (some (true))) (some (false)))) (some (false)))) (some (false)))
def t_nodeErr_p3l : List Nat := List.range' 74 32
theorem t_nodeErr_p3_W : ∀ (o_n_7 : Nat) (o_x_8 : Nat) (n_7_0 : Int) (n_7_1 : Int) (n_7_2 : Str) (n_7_3 : List Str) (n_7_4 : List Int) (x_8_0 : Int) (x_8_1 : Int) (x_8_2 : Int) (x_8_3 : Int) (x_8_4 : Bool) (x_8_5 : Bool) (let_13 : Bool) (t_73 : Bool) (σ0 σ : Nat -> PV) (H : AH) (f0 : Fr t_nodeErr_p3l σ0 σ) (sl : σ 7 = (.ref (o_n_7) 0) /\ σ 8 = (.ref (o_x_8) 0) /\ σ 13 = (.bool let_13) /\ σ 73 = (.bool t_73) /\ H.obj o_n_7 = some [(.int .i64 n_7_0), (.int .i64 n_7_1), (.str n_7_2), (.isl (n_7_3.map strL) .unk), (.isl (n_7_4.map intL) .unk)] /\ H.obj o_x_8 = some [(.int .i64 x_8_0), (.int .i64 x_8_1), (.int .i64 x_8_2), (.int .i64 x_8_3), (.bool x_8_4), (.bool x_8_5)]) (l_o_n_7 : o_n_7 < H.next) (l_o_x_8 : o_x_8 < H.next) (d_o_n_7_o_x_8 : o_n_7 ≠ o_x_8) (o : Bool) (h : t_nodeErr_p3 n_7_0 n_7_1 n_7_2 n_7_3 n_7_4 x_8_0 x_8_1 x_8_2 x_8_3 x_8_4 x_8_5 let_13 t_73 = some o) (Q : Post) (q0 : ∀ (p : Bool) (σ' : Nat -> PV), o = p -> Fr t_nodeErr_p3l σ0 σ' -> (σ' 105 = (.bool p)) -> Q .normal σ' H) , WOps Tryz.prog ac48_p3 (Q .normal) σ H := by
  intro o_n_7 o_x_8 n_7_0 n_7_1 n_7_2 n_7_3 n_7_4 x_8_0 x_8_1 x_8_2 x_8_3 x_8_4 x_8_5 let_13 t_73 σ0 σ H f0 sl l_o_n_7 l_o_x_8 d_o_n_7_o_x_8 o h Q q0; obtain ⟨s7, s8, s13, s73, g_o_n_7, g_o_x_8⟩ := sl; have n_o_n_7 := ne_next l_o_n_7; have m_o_n_7 := ne_add l_o_n_7; have n_o_x_8 := ne_next l_o_x_8; have m_o_x_8 := ne_add l_o_x_8; have e_o_n_7_o_x_8 := eq_false d_o_n_7_o_x_8; have r_o_n_7_o_x_8 := eq_false (Ne.symm d_o_n_7_o_x_8); unfold t_nodeErr_p3 at h; refine WO_start ?_; unfold ac48_p3; rcases cond_E h with ⟨e84, h⟩ | ⟨e84, h⟩
  ·rcases cond_E h with ⟨e85, h⟩ | ⟨e85, h⟩
   ·rcases cond_E h with ⟨e86, h⟩ | ⟨e86, h⟩
    ·rcases cond_E h with ⟨e87, h⟩ | ⟨e87, h⟩
     ·obtain ⟨p89, e88, h⟩ := bind_E h; try refine gos_ ?_
      refine mcall_pure (t_spans_c e88) ?_; obtain rfl := som_E h; try refine gos_ ?_
      exact q0 _ _ rfl fr_ sls_
     ·obtain rfl := som_E h; try refine gos_ ?_
      exact q0 _ _ rfl fr_ sls_
    ·obtain ⟨p91, e90, h⟩ := bind_E h; try refine gos_ ?_
     refine mcall_pure (t_isText_c e90) ?_; rcases cond_E h with ⟨e92, h⟩ | ⟨e92, h⟩
     ·rcases cond_E h with ⟨e93, h⟩ | ⟨e93, h⟩
      ·obtain ⟨p95, e94, h⟩ := bind_E h; try refine gos_ ?_
       refine mcall_pure (t_spans_c e94) ?_; obtain rfl := som_E h; try refine gos_ ?_
       exact q0 _ _ rfl fr_ sls_
      ·obtain rfl := som_E h; try refine gos_ ?_
       exact q0 _ _ rfl fr_ sls_
     ·obtain rfl := som_E h; try refine gos_ ?_
      exact q0 _ _ rfl fr_ sls_
   ·rcases cond_E h with ⟨e96, h⟩ | ⟨e96, h⟩
    ·rcases cond_E h with ⟨e97, h⟩ | ⟨e97, h⟩
     ·rcases cond_E h with ⟨e98, h⟩ | ⟨e98, h⟩
      ·obtain ⟨p100, e99, h⟩ := bind_E h; try refine gos_ ?_
       refine mcall_pure (t_spans_c e99) ?_; obtain rfl := som_E h; try refine gos_ ?_
       exact q0 _ _ rfl fr_ sls_
      ·obtain rfl := som_E h; try refine gos_ ?_
       exact q0 _ _ rfl fr_ sls_
     ·obtain ⟨p102, e101, h⟩ := bind_E h; try refine gos_ ?_
      refine mcall_pure (t_isText_c e101) ?_; rcases cond_E h with ⟨e103, h⟩ | ⟨e103, h⟩
      ·rcases cond_E h with ⟨e104, h⟩ | ⟨e104, h⟩
       ·obtain ⟨p106, e105, h⟩ := bind_E h; try refine gos_ ?_
        refine mcall_pure (t_spans_c e105) ?_; obtain rfl := som_E h; try refine gos_ ?_
        exact q0 _ _ rfl fr_ sls_
       ·obtain rfl := som_E h; try refine gos_ ?_
        exact q0 _ _ rfl fr_ sls_
      ·obtain rfl := som_E h; try refine gos_ ?_
       exact q0 _ _ rfl fr_ sls_
    ·obtain rfl := som_E h; try refine gos_ ?_
     exact q0 _ _ rfl fr_ sls_
  ·rcases cond_E h with ⟨e107, h⟩ | ⟨e107, h⟩
   ·rcases cond_E h with ⟨e108, h⟩ | ⟨e108, h⟩
    ·rcases cond_E h with ⟨e109, h⟩ | ⟨e109, h⟩
     ·rcases cond_E h with ⟨e110, h⟩ | ⟨e110, h⟩
      ·obtain ⟨p112, e111, h⟩ := bind_E h; try refine gos_ ?_
       refine mcall_pure (t_spans_c e111) ?_; obtain rfl := som_E h; try refine gos_ ?_
       exact q0 _ _ rfl fr_ sls_
      ·obtain rfl := som_E h; try refine gos_ ?_
       exact q0 _ _ rfl fr_ sls_
     ·obtain ⟨p114, e113, h⟩ := bind_E h; try refine gos_ ?_
      refine mcall_pure (t_isText_c e113) ?_; rcases cond_E h with ⟨e115, h⟩ | ⟨e115, h⟩
      ·rcases cond_E h with ⟨e116, h⟩ | ⟨e116, h⟩
       ·obtain ⟨p118, e117, h⟩ := bind_E h; try refine gos_ ?_
        refine mcall_pure (t_spans_c e117) ?_; obtain rfl := som_E h; try refine gos_ ?_
        exact q0 _ _ rfl fr_ sls_
       ·obtain rfl := som_E h; try refine gos_ ?_
        exact q0 _ _ rfl fr_ sls_
      ·obtain rfl := som_E h; try refine gos_ ?_
       exact q0 _ _ rfl fr_ sls_
    ·rcases cond_E h with ⟨e119, h⟩ | ⟨e119, h⟩
     ·rcases cond_E h with ⟨e120, h⟩ | ⟨e120, h⟩
      ·rcases cond_E h with ⟨e121, h⟩ | ⟨e121, h⟩
       ·obtain ⟨p123, e122, h⟩ := bind_E h; try refine gos_ ?_
        refine mcall_pure (t_spans_c e122) ?_; obtain rfl := som_E h; try refine gos_ ?_
        exact q0 _ _ rfl fr_ sls_
       ·obtain rfl := som_E h; try refine gos_ ?_
        exact q0 _ _ rfl fr_ sls_
      ·obtain ⟨p125, e124, h⟩ := bind_E h; try refine gos_ ?_
       refine mcall_pure (t_isText_c e124) ?_; rcases cond_E h with ⟨e126, h⟩ | ⟨e126, h⟩
       ·rcases cond_E h with ⟨e127, h⟩ | ⟨e127, h⟩
        ·obtain ⟨p129, e128, h⟩ := bind_E h; try refine gos_ ?_
         refine mcall_pure (t_spans_c e128) ?_; obtain rfl := som_E h; try refine gos_ ?_
         exact q0 _ _ rfl fr_ sls_
        ·obtain rfl := som_E h; try refine gos_ ?_
         exact q0 _ _ rfl fr_ sls_
       ·obtain rfl := som_E h; try refine gos_ ?_
        exact q0 _ _ rfl fr_ sls_
     ·obtain rfl := som_E h; try refine gos_ ?_
      exact q0 _ _ rfl fr_ sls_
   ·obtain rfl := som_E h; try refine gos_ ?_
    exact q0 _ _ rfl fr_ sls_
def t_nodeErr (k : Nat) (e_0 : List Nd) (i_1 : Int) (begins_2 : List Int) : Option Int :=
  if 0 <= i_1 then Option.bind (e_0[i_1.toNat]?) fun x2 => Option.bind (t_spans x2.kind 0 28) fun p5 => cond p5 (Option.bind (t_shapeOf k x2) fun p8 => Option.bind (t_spans (x2.names.length : Int) p8.names.1 p8.names.2) fun p10 => Option.bind (t_nodeErr_p0 x2.kind x2.n x2.text x2.names x2.args p8.names.1 p8.names.2 p8.operands.1 p8.operands.2 p8.text p8.number (!p10)) (fun p16 => cond p16 (some 6) (Option.bind (t_nodeErr_j2 begins_2 x2.kind x2.n x2.text x2.names x2.args (IntKind.wrap .i64 (i_1 - 1)) true) (fun p66 => Option.bind (t_nodeErr_p3 x2.kind x2.n x2.text x2.names x2.args p8.names.1 p8.names.2 p8.operands.1 p8.operands.2 p8.text p8.number (x2.kind == 23) p8.text) (fun p132 => cond p66.2 (Option.bind (t_wrong (!p132) 5) fun p142 => cond (x2.kind == 23) (Option.bind (t_wrong false 3) fun p145 => Option.bind (t_namesErr k x2) fun p147 => Option.bind (g_Or_api_Errno k [p142, p145, p147]) fun p149 => some p149) (Option.bind (t_spans x2.n 0 10000) fun p151 => Option.bind (t_wrong (!p151) 3) fun p153 => Option.bind (t_namesErr k x2) fun p155 => Option.bind (g_Or_api_Errno k [p142, p153, p155]) fun p157 => some p157)) (Option.bind (t_wrong true 5) fun p159 => cond (x2.kind == 23) (Option.bind (t_wrong false 3) fun p162 => Option.bind (t_namesErr k x2) fun p164 => Option.bind (g_Or_api_Errno k [p159, p162, p164]) fun p166 => some p166) (Option.bind (t_spans x2.n 0 10000) fun p168 => Option.bind (t_wrong (!p168) 3) fun p170 => Option.bind (t_namesErr k x2) fun p172 => Option.bind (g_Or_api_Errno k [p159, p170, p172]) fun p174 => some p174))))))) (some 4) else none
theorem t_nodeErr_c {k : Nat} {e_0 : List Nd} {i_1 : Int} {begins_2 : List Int} {c0 c2 : Ck} {r : Int} (h : t_nodeErr k e_0 i_1 begins_2 = some r) : PCall Tryz.prog 48 [(.isl (e_0.map Nd.cells) c0), (.int .i64 i_1), (.isl (begins_2.map intL) c2)] (.int .i64 r) := by
  refine PCall.lw (.isl (.same (.isl .nil))) (PCall.of_empty (PuL.mem (.cons (pu_sl Nd.pu _) (.cons (.int _ _) (.cons (pu_sl pu_intL _) .nil)))) (MCall_of_W ok48 (by simp) (W_start ?_)) (.int _ _)); unfold t_nodeErr at h; unfold ac48; obtain ⟨e1, h⟩ := if_E h; obtain ⟨x2, e3, h⟩ := bind_E h; obtain ⟨p5, e4, h⟩ := bind_E h; try refine gos_ ?_
  refine mcall_pure (t_spans_c e4) ?_; rcases cond_E h with ⟨e6, h⟩ | ⟨e6, h⟩
  ·obtain ⟨p8, e7, h⟩ := bind_E h; try refine gos_ ?_
   refine mcall_pure (t_shapeOf_c e7) ?_; obtain ⟨p10, e9, h⟩ := bind_E h; try refine gos_ ?_
   refine mcall_pure (t_spans_c e9) ?_; try refine gos_ ?_
   obtain ⟨o14, h15, h⟩ := bind_E h; refine t_nodeErr_p0_W (AH.empty.next + 1) (AH.empty.next + 2) x2.kind x2.n x2.text x2.names x2.args p8.names.1 p8.names.2 p8.operands.1 p8.operands.2 p8.text p8.number (!p10) _ _ _ (Fr.refl _ _) sls_ om_ om_ om_ _ h15 _ ?_
   ·rintro p16 σ' eo fr17 s20; rw [eo] at h; have s21 : σ' 1 = (.int .i64 i_1) := (fr17 1 (by decide)).trans sls_; have s22 : σ' 5 = (.ref (AH.empty.next) 0) := (fr17 5 (by decide)).trans sls_; have s23 : σ' 7 = (.ref (AH.empty.next + 1) 0) := (fr17 7 (by decide)).trans sls_; have s24 : σ' 8 = (.ref (AH.empty.next + 2) 0) := (fr17 8 (by decide)).trans sls_; rcases cond_E h with ⟨e25, h⟩ | ⟨e25, h⟩
    ·obtain rfl := som_E h; try refine gos_ ?_
     exact (.pure _ (.int _ _))
    ·try refine gos_ ?_
     obtain ⟨o64, h65, h⟩ := bind_E h; refine t_nodeErr_j2_W (AH.empty.next) (AH.empty.next + 1) (AH.empty.next + 3) (AH.empty.next + 4) begins_2 x2.kind x2.n x2.text x2.names x2.args (IntKind.wrap .i64 (i_1 - 1)) true _ _ _ _ (Fr.refl _ _) (HF.refl _ _) sls_ om_ om_ om_ om_ om_ om_ om_ om_ om_ om_ _ h65 _ ?_
     ·rintro p66 σ' H69 eo fr67 hf68 ⟨g70, g71⟩; rw [eo] at h; have s72 : σ' 7 = (.ref (AH.empty.next + 1) 0) := (fr67 7 (by decide)).trans sls_; have s73 : σ' 8 = (.ref (AH.empty.next + 2) 0) := (fr67 8 (by decide)).trans sls_; have s74 : σ' 10 = (.ref (AH.empty.next + 4) 0) := (fr67 10 (by decide)).trans sls_; have le := hf68.1; try simp only [AH.new_next, AH.put_next, AH.tok_next, AH.use_next] at le
      have g75 : H69.obj (AH.empty.next + 1) = some [(.int .i64 x2.kind), (.int .i64 x2.n), (.str x2.text), (.isl (x2.names.map strL) .unk), (.isl (x2.args.map intL) .unk)] := (hf68.2 _ om_ (by first | exact List.not_mem_nil | (simp only [List.mem_cons, List.not_mem_nil, or_false, not_or]; omega))).trans sls_; have n76 := ne_next (show AH.empty.next + 1 < H69.next by first | omega | (simp only [AH.new_next, AH.put_next, AH.tok_next, AH.use_next]; omega)); have m77 := ne_add (show AH.empty.next + 1 < H69.next by first | omega | (simp only [AH.new_next, AH.put_next, AH.tok_next, AH.use_next]; omega)); have g78 : H69.obj (AH.empty.next + 2) = some [(.int .i64 p8.names.1), (.int .i64 p8.names.2), (.int .i64 p8.operands.1), (.int .i64 p8.operands.2), (.bool p8.text), (.bool p8.number)] := (hf68.2 _ om_ (by first | exact List.not_mem_nil | (simp only [List.mem_cons, List.not_mem_nil, or_false, not_or]; omega))).trans sls_; have n79 := ne_next (show AH.empty.next + 2 < H69.next by first | omega | (simp only [AH.new_next, AH.put_next, AH.tok_next, AH.use_next]; omega)); have m80 := ne_add (show AH.empty.next + 2 < H69.next by first | omega | (simp only [AH.new_next, AH.put_next, AH.tok_next, AH.use_next]; omega)); have n82 := ne_next (show AH.empty.next + 4 < H69.next by first | omega | (simp only [AH.new_next, AH.put_next, AH.tok_next, AH.use_next]; omega)); have m83 := ne_add (show AH.empty.next + 4 < H69.next by first | omega | (simp only [AH.new_next, AH.put_next, AH.tok_next, AH.use_next]; omega)); try refine gos_ ?_
      obtain ⟨o130, h131, h⟩ := bind_E h; refine t_nodeErr_p3_W (AH.empty.next + 1) (AH.empty.next + 2) x2.kind x2.n x2.text x2.names x2.args p8.names.1 p8.names.2 p8.operands.1 p8.operands.2 p8.text p8.number (x2.kind == 23) p8.text _ _ _ (Fr.refl _ _) sls_ om_ om_ om_ _ h131 _ ?_
      ·rintro p132 σ' eo fr133 s136; rw [eo] at h; have s137 : σ' 7 = (.ref (AH.empty.next + 1) 0) := (fr133 7 (by decide)).trans sls_; have s138 : σ' 10 = (.ref (AH.empty.next + 4) 0) := (fr133 10 (by decide)).trans sls_; have s139 : σ' 13 = (.bool (x2.kind == 23)) := (fr133 13 (by decide)).trans sls_; try refine gos_ ?_
       refine WS_parS ?_; rcases cond_E h with ⟨e140, h⟩ | ⟨e140, h⟩
       ·obtain ⟨p142, e141, h⟩ := bind_E h; try refine gos_ ?_
        refine PC.mk (t_wrong_c e141) ?_; rcases cond_E h with ⟨e143, h⟩ | ⟨e143, h⟩
        ·obtain ⟨p145, e144, h⟩ := bind_E h; try refine gos_ ?_
         refine PC.mk (t_wrong_c e144) ?_; obtain ⟨p147, e146, h⟩ := bind_E h; try refine gos_ ?_
         refine mcall_pure (t_namesErr_c e146) ?_; obtain ⟨p149, e148, h⟩ := bind_E h; try refine gos_ ?_
         refine mcall_pure (g_Or_api_Errno_c e148) ?_; obtain rfl := som_E h; try refine gos_ ?_
         exact (.pure _ (.int _ _))
        ·obtain ⟨p151, e150, h⟩ := bind_E h; try refine gos_ ?_
         refine PC.mk (t_spans_c e150) ?_; obtain ⟨p153, e152, h⟩ := bind_E h; try refine gos_ ?_
         refine PC.mk (t_wrong_c e152) ?_; obtain ⟨p155, e154, h⟩ := bind_E h; try refine gos_ ?_
         refine mcall_pure (t_namesErr_c e154) ?_; obtain ⟨p157, e156, h⟩ := bind_E h; try refine gos_ ?_
         refine mcall_pure (g_Or_api_Errno_c e156) ?_; obtain rfl := som_E h; try refine gos_ ?_
         exact (.pure _ (.int _ _))
       ·obtain ⟨p159, e158, h⟩ := bind_E h; try refine gos_ ?_
        refine PC.mk (t_wrong_c e158) ?_; rcases cond_E h with ⟨e160, h⟩ | ⟨e160, h⟩
        ·obtain ⟨p162, e161, h⟩ := bind_E h; try refine gos_ ?_
         refine PC.mk (t_wrong_c e161) ?_; obtain ⟨p164, e163, h⟩ := bind_E h; try refine gos_ ?_
         refine mcall_pure (t_namesErr_c e163) ?_; obtain ⟨p166, e165, h⟩ := bind_E h; try refine gos_ ?_
         refine mcall_pure (g_Or_api_Errno_c e165) ?_; obtain rfl := som_E h; try refine gos_ ?_
         exact (.pure _ (.int _ _))
        ·obtain ⟨p168, e167, h⟩ := bind_E h; try refine gos_ ?_
         refine PC.mk (t_spans_c e167) ?_; obtain ⟨p170, e169, h⟩ := bind_E h; try refine gos_ ?_
         refine PC.mk (t_wrong_c e169) ?_; obtain ⟨p172, e171, h⟩ := bind_E h; try refine gos_ ?_
         refine mcall_pure (t_namesErr_c e171) ?_; obtain ⟨p174, e173, h⟩ := bind_E h; try refine gos_ ?_
         refine mcall_pure (g_Or_api_Errno_c e173) ?_; obtain rfl := som_E h; try refine gos_ ?_
         exact (.pure _ (.int _ _))
  ·obtain rfl := som_E h; try refine gos_ ?_
   exact (.pure _ (.int _ _))
end Go.VL
end
section
set_option maxRecDepth 8000
set_option maxHeartbeats 4000000
namespace Go.VL
open Go.Proofs
def t_CheckExpr_b0 : Nat -> (List Nd) -> (List Int) -> Int -> Int -> Option (List Int ⊕ (Int × Int))
  | 0, _, _, _, _ => none
  | k + 1, e_0, begins_5, t_26, t_27 =>
    cond (decide (t_27 < t_26)) (Option.bind (t_nodeErr k e_0 t_27 begins_5) fun p10 => cond (p10 != 0) (some (.inr ((t_27, p10)))) (if (begins_5.length + 1) * 8 <= 1099511627776 then Option.bind (t_begin e_0 t_27 (begins_5 ++ [0])) fun p21 => if 0 <= t_27 then Option.bind ((begins_5 ++ [0])[t_27.toNat]?) fun x23 => t_CheckExpr_b0 k e_0 ((begins_5 ++ [0]).set t_27.toNat p21) t_26 (IntKind.wrap .i64 (t_27 + 1)) else none else none)) (some (.inl begins_5))
def t_CheckExpr_b0l : List Nat := [2, 3, 5, 6, 7] ++ List.range' 27 22
theorem t_CheckExpr_b0_W : ∀ (k : Nat) (v_begins_5 : PV) (ids_begins_5 : List Nat) (M : List Nat) (e_0 : List Nd) (begins_5 : List Int) (t_26 : Int) (t_27 : Int) (σ0 σ : Nat -> PV) (H0 H : AH) (f0 : Fr t_CheckExpr_b0l σ0 σ) (hf0 : HF M H0 H) (sl : σ 0 = (.isl (e_0.map Nd.cells) .unk) /\ σ 5 = v_begins_5 /\ σ 26 = (.int .i64 t_26) /\ σ 27 = (.int .i64 t_27)) (r_begins_5 : RowN H intL 1 begins_5 v_begins_5 ids_begins_5) (nw_begins_5 : Nw H0 M ids_begins_5) (o : List Int ⊕ (Int × Int)) (h : t_CheckExpr_b0 k e_0 begins_5 t_26 t_27 = some o) (Q : Post) (q0 : ∀ (p : List Int) (v0 : PV) (ids0 : List Nat) (σ' : Nat -> PV) (H' : AH), o = .inl p -> Fr t_CheckExpr_b0l σ0 σ' -> HF M H0 H' -> (σ' 5 = v0) -> RowN H' intL 1 p v0 ids0 -> Nw H0 M ids0 -> Q (.exit 0) σ' H') (q1 : ∀ (p : Int × Int) (σ' : Nat -> PV) (H' : AH), o = .inr (p) -> Fr t_CheckExpr_b0l σ0 σ' -> HF M H0 H' -> (σ' 2 = (.int .i64 p.1) /\ σ' 3 = (.int .i64 p.2)) -> Q .ret σ' H') , W Tryz.prog (.loop ac14_b0) Q σ H := by
  intro k
  induction k with
  | zero => intro v_begins_5 ids_begins_5 M e_0 begins_5 t_26 t_27 σ0 σ H0 H f0 hf0 sl r_begins_5 nw_begins_5 o h Q q0 q1; simp only [t_CheckExpr_b0, reduceCtorEq] at h
  | succ k ih =>
    intro v_begins_5 ids_begins_5 M e_0 begins_5 t_26 t_27 σ0 σ H0 H f0 hf0 sl r_begins_5 nw_begins_5 o h Q q0 q1; obtain ⟨s0, s5, s26, s27⟩ := sl; have hle0 := hf0.1; unfold t_CheckExpr_b0 at h; refine W_loopK (fun K hK => W_start ?_); unfold ac14_b0; rcases cond_E h with ⟨e8, h⟩ | ⟨e8, h⟩
    ·obtain ⟨p10, e9, h⟩ := bind_E h; try refine go_ ?_
     refine mcall_frz (t_nodeErr_c e9) (.cons (fz_sl Nd.pu _ _) (.cons (.pure _ (.int _ _)) (.cons (RowN.fz pu_intL (by repeat (first | exact r_begins_5 | apply RowN.new | refine RowN.put ?_ (fun hm => by have := RowN.lt r_begins_5 _ hm; omega)))) .nil))) (.cons (pu_sl Nd.pu _) (.cons (.int _ _) (.cons (pu_sl pu_intL _) .nil))) (.int _ _) ?_; rcases cond_E h with ⟨e11, h⟩ | ⟨e11, h⟩
     ·obtain rfl := som_E h; try refine go_ ?_
      exact q1 _ _ _ rfl fr_ (by repeat (first | exact hf0 | refine HF.new ?_ | refine HF.tokd ?_ | refine HF.used ?_ | refine HF.put (by first | (right; omega) | (left; simp only [List.mem_cons, true_or, or_true])) ?_)) sl_
     ·obtain ⟨e12, h⟩ := if_E h; try refine go_ ?_
      refine WO_rowapp (f := intL) (v := v_begins_5) row_int begins_5 ([0] : List Int) .exact sl_ (by repeat (first | exact r_begins_5 | apply RowN.new | refine RowN.put ?_ (fun hm => by have := RowN.lt r_begins_5 _ hm; omega))) sl_ (by decide) (by simp only [List.length_cons, List.length_nil]; exact e12) (fun v13 ids14 H15 r16 nw17 hf18 ok19 => ?_); have le := hf18.1; try simp only [AH.new_next, AH.put_next, AH.tok_next, AH.use_next] at le
      obtain ⟨p21, e20, h⟩ := bind_E h; try refine go_ ?_
      refine mcall_frz (t_begin_c e20) (.cons (fz_sl Nd.pu _ _) (.cons (.pure _ (.int _ _)) (.cons (RowN.fz pu_intL (by repeat (first | exact r16 | apply RowN.new | refine RowN.put ?_ (fun hm => by have := RowN.lt r16 _ hm; omega)))) .nil))) (.cons (pu_sl Nd.pu _) (.cons (.int _ _) (.cons (pu_sl pu_intL _) .nil))) (.int _ _) ?_; obtain ⟨e22, h⟩ := if_E h; obtain ⟨x23, e24, h⟩ := bind_E h; obtain ⟨w25, w26, hidw25, hil, w27, hC, hL, hD, hI⟩ := RowN.content r16 e24; have w28 := ne_next hil; have w29 := ne_add hil; have w30 : idxPV 1 v13 (.int .i64 t_27) = some (.ref w25 (t_27.toNat)) := by simpa using hI .i64 t_27 (by first | omega | decide) (by first | rfl | omega)
      have w25c0 : w26[t_27.toNat]? = some (.int .i64 x23) := by simpa using hC 0 _ rfl
      clear hC hL hD hI; try refine go_ ?_
      refine WO_rowset (f := intL) (id := w25) (o := t_27.toNat) (i := t_27.toNat) (j := 0) (a := x23) (y := p21) (vs := [(.int .i64 p21)]) sl_ hidw25 (by omega) (by repeat (first | exact r16 | apply RowN.new | refine RowN.put ?_ (fun hm => by have := RowN.lt r16 _ hm; omega))) e24 sl_ rfl rfl (by first | decide | (simp only [List.length_cons, List.length_nil]; omega)) rfl (fun H33 r34 hf36 ok37 => ?_); have le := hf36.1; try simp only [AH.new_next, AH.put_next, AH.tok_next, AH.use_next] at le
      try refine go_ ?_
      refine hK _ _ ?_; exact ih v13 ids14 M e_0 ((begins_5 ++ [0]).set t_27.toNat p21) t_26 (IntKind.wrap .i64 (t_27 + 1)) _ _ _ _ fr_ (by repeat (first | exact hf0 | refine HF.new ?_ | refine HF.tokd ?_ | refine HF.used ?_ | refine HF.put (by first | (right; omega) | (left; simp only [List.mem_cons, true_or, or_true])) ?_ | refine HF.via hf18 nw_begins_5 ?_ | refine HF.via hf36 (Nw.trans nw_begins_5 om_ nw17) ?_)) sl_ (by repeat (first | exact r34 | apply RowN.new | refine RowN.put ?_ (fun hm => by have := RowN.lt r34 _ hm; omega))) (Nw.trans nw_begins_5 om_ nw17) _ h _ q0 q1
    ·obtain rfl := som_E h; try refine go_ ?_
     exact q0 _ v_begins_5 ids_begins_5 _ _ rfl fr_ (by repeat (first | exact hf0 | refine HF.new ?_ | refine HF.tokd ?_ | refine HF.used ?_ | refine HF.put (by first | (right; omega) | (left; simp only [List.mem_cons, true_or, or_true])) ?_)) sl_ (by repeat (first | exact r_begins_5 | apply RowN.new | refine RowN.put ?_ (fun hm => by have := RowN.lt r_begins_5 _ hm; omega))) nw_begins_5
def t_CheckExpr_b1 : Nat -> (List Nd) -> (List Int) -> (List Int) -> Int -> Int -> Option (Unit ⊕ (Int × Int))
  | 0, _, _, _, _, _ => none
  | k + 1, e_0, up_9, place_10, t_58, t_59 =>
    cond (decide (t_59 < t_58)) (Option.bind (t_isLost k e_0 t_59 up_9 place_10) fun p54 => cond p54 (some (.inr ((t_59, 30)))) (t_CheckExpr_b1 k e_0 up_9 place_10 t_58 (IntKind.wrap .i64 (t_59 + 1)))) (some (.inl ()))
def t_CheckExpr_b1l : List Nat := [2, 3, 11] ++ List.range' 59 10
theorem t_CheckExpr_b1_W : ∀ (k : Nat) (e_0 : List Nd) (up_9 : List Int) (place_10 : List Int) (t_58 : Int) (t_59 : Int) (σ0 σ : Nat -> PV) (H : AH) (f0 : Fr t_CheckExpr_b1l σ0 σ) (sl : σ 0 = (.isl (e_0.map Nd.cells) .unk) /\ σ 9 = (.isl (up_9.map intL) .unk) /\ σ 10 = (.isl (place_10.map intL) .unk) /\ σ 58 = (.int .i64 t_58) /\ σ 59 = (.int .i64 t_59)) (o : Unit ⊕ (Int × Int)) (h : t_CheckExpr_b1 k e_0 up_9 place_10 t_58 t_59 = some o) (Q : Post) (q0 : ∀ (p : Unit) (σ' : Nat -> PV), o = .inl p -> Fr t_CheckExpr_b1l σ0 σ' -> Q (.exit 2) σ' H) (q1 : ∀ (p : Int × Int) (σ' : Nat -> PV), o = .inr (p) -> Fr t_CheckExpr_b1l σ0 σ' -> (σ' 2 = (.int .i64 p.1) /\ σ' 3 = (.int .i64 p.2)) -> Q .ret σ' H) , W Tryz.prog (.loop ac14_b1) Q σ H := by
  intro k
  induction k with
  | zero => intro e_0 up_9 place_10 t_58 t_59 σ0 σ H f0 sl o h Q q0 q1; simp only [t_CheckExpr_b1, reduceCtorEq] at h
  | succ k ih =>
    intro e_0 up_9 place_10 t_58 t_59 σ0 σ H f0 sl o h Q q0 q1; obtain ⟨s0, s9, s10, s58, s59⟩ := sl; unfold t_CheckExpr_b1 at h; refine W_loopK (fun K hK => W_start ?_); unfold ac14_b1; rcases cond_E h with ⟨e52, h⟩ | ⟨e52, h⟩
    ·obtain ⟨p54, e53, h⟩ := bind_E h; try refine go_ ?_
     refine mcall_pure (t_isLost_c e53) ?_; rcases cond_E h with ⟨e55, h⟩ | ⟨e55, h⟩
     ·obtain rfl := som_E h; try refine go_ ?_
      exact q1 _ _ rfl fr_ sl_
     ·try refine go_ ?_
      refine hK _ _ ?_; exact ih e_0 up_9 place_10 t_58 (IntKind.wrap .i64 (t_59 + 1)) _ _ _ fr_ sl_ _ h _ q0 q1
    ·obtain rfl := som_E h; try refine go_ ?_
     exact q0 _ _ rfl fr_
def t_CheckExpr (k : Nat) (e_0 : List Nd) : Option (Int × Int) :=
  Option.bind (t_wrong ((e_0.length : Int) == 0) 1) fun p2 => Option.bind (t_wrong (decide ((e_0.length : Int) > 160)) 2) fun p4 => Option.bind (g_Or_api_Errno k [p2, p4]) fun p6 => cond (p6 != 0) (some (0, p6)) (Option.bind (t_CheckExpr_b0 k e_0 ([] : List Int) (e_0.length : Int) 0) (fun o => Sum.elim (fun p40 => Option.bind (t_parents k e_0) fun p51 => Option.bind (t_CheckExpr_b1 k e_0 p51.1 p51.2 (e_0.length : Int) 0) (fun o => Sum.elim (fun p58 => if 0 <= (IntKind.wrap .i64 ((e_0.length : Int) - 1)) then Option.bind (p40[(IntKind.wrap .i64 ((e_0.length : Int) - 1)).toNat]?) fun x65 => cond (x65 != 0) (some ((IntKind.wrap .i64 ((e_0.length : Int) - 1)), 15)) (some (0, 0)) else none) (fun p74 => some (p74.1, p74.2)) o)) (fun p80 => some (p80.1, p80.2)) o))
theorem t_CheckExpr_c {k : Nat} {e_0 : List Nd} {c0 : Ck} {r : Int × Int} (h : t_CheckExpr k e_0 = some r) : PCall Tryz.prog 14 [(.isl (e_0.map Nd.cells) c0)] (.tup [(.int .i64 r.1), (.int .i64 r.2)]) := by
  refine PCall.lw (.isl .nil) (PCall.of_empty (PuL.mem (.cons (pu_sl Nd.pu _) .nil)) (MCall_of_W ok14 (by simp) (W_start ?_)) (.tup _ (PuL.mem (.cons (.int _ _) (.cons (.int _ _) .nil))))); unfold t_CheckExpr at h; unfold ac14; obtain ⟨p2, e1, h⟩ := bind_E h; try refine go_ ?_
  refine mcall_pure (t_wrong_c e1) ?_; obtain ⟨p4, e3, h⟩ := bind_E h; try refine go_ ?_
  refine mcall_pure (t_wrong_c e3) ?_; obtain ⟨p6, e5, h⟩ := bind_E h; try refine go_ ?_
  refine mcall_pure (g_Or_api_Errno_c e5) ?_; rcases cond_E h with ⟨e7, h⟩ | ⟨e7, h⟩
  ·obtain rfl := som_E h; try refine go_ ?_
   exact (fz_tup (.cons (.pure _ (.int _ _)) (.cons (.pure _ (.int _ _)) .nil)))
  ·try refine go_ ?_
   obtain ⟨o38, h39, h⟩ := bind_E h; refine t_CheckExpr_b0_W k (.isl [] .nil) [] ([] ++ []) e_0 ([] : List Int) (e_0.length : Int) 0 _ _ _ _ (Fr.refl _ _) (HF.refl _ _) sl_ (by repeat (first | exact RowN.nil | apply RowN.new | refine RowN.put ?_ (fun hm => by have := RowN.lt RowN.nil _ hm; omega))) (fun i hi => Or.inl (by simp only [List.mem_append, List.mem_cons, hi, true_or, or_true])) _ h39 _ ?_ ?_
   ·rintro p40 v44 ids45 σ' H43 eo fr41 hf42 s48 r46 nw47; subst eo; rw [sum_L] at h; have s49 : σ' 0 = (.isl (e_0.map Nd.cells) .unk) := (fr41 0 (by decide)).trans sl_; have le := hf42.1; try simp only [AH.new_next, AH.put_next, AH.tok_next, AH.use_next] at le
    obtain ⟨p51, e50, h⟩ := bind_E h; try refine go_ ?_
    refine mcall_pure (t_parents_c e50) ?_; try refine go_ ?_
    obtain ⟨o56, h57, h⟩ := bind_E h; refine t_CheckExpr_b1_W k e_0 p51.1 p51.2 (e_0.length : Int) 0 _ _ _ (Fr.refl _ _) sl_ _ h57 _ ?_ ?_
    ·rintro p58 σ' eo fr59; subst eo; rw [sum_L] at h; have s62 : σ' 5 = v44 := (fr59 5 (by decide)).trans sl_; have s63 : σ' 8 = (.int .i64 (IntKind.wrap .i64 ((e_0.length : Int) - 1))) := (fr59 8 (by decide)).trans sl_; obtain ⟨e64, h⟩ := if_E h; obtain ⟨x65, e66, h⟩ := bind_E h; obtain ⟨w67, w68, hidw67, hil, w69, hC, hL, hD, hI⟩ := RowN.content r46 e66; have w70 := ne_next hil; have w71 := ne_add hil; have w72 : idxPV 1 v44 (.int .i64 (IntKind.wrap .i64 ((e_0.length : Int) - 1))) = some (.ref w67 ((IntKind.wrap .i64 ((e_0.length : Int) - 1)).toNat)) := by simpa using hI .i64 (IntKind.wrap .i64 ((e_0.length : Int) - 1)) (by first | omega | decide) (by first | rfl | omega)
     have w67c0 : w68[(IntKind.wrap .i64 ((e_0.length : Int) - 1)).toNat]? = some (.int .i64 x65) := by simpa using hC 0 _ rfl
     clear hC hL hD hI; rcases cond_E h with ⟨e73, h⟩ | ⟨e73, h⟩
     ·obtain rfl := som_E h; try refine go_ ?_
      exact (fz_tup (.cons (.pure _ (.int _ _)) (.cons (.pure _ (.int _ _)) .nil)))
     ·obtain rfl := som_E h; try refine go_ ?_
      exact (fz_tup (.cons (.pure _ (.int _ _)) (.cons (.pure _ (.int _ _)) .nil)))
    ·rintro p74 σ' eo fr75 ⟨s78, s79⟩; subst eo; rw [sum_R] at h; obtain rfl := som_E h; try refine go_ ?_
     exact (fz_tup (.cons (.pure _ (.int _ _)) (.cons (.pure _ (.int _ _)) .nil)))
   ·rintro p80 σ' H83 eo fr81 hf82 ⟨s84, s85⟩; subst eo; rw [sum_R] at h; have le := hf82.1; try simp only [AH.new_next, AH.put_next, AH.tok_next, AH.use_next] at le
    obtain rfl := som_E h; try refine go_ ?_
    exact (fz_tup (.cons (.pure _ (.int _ _)) (.cons (.pure _ (.int _ _)) .nil)))
def t_exprErr (k : Nat) (e_0 : List Nd) : Option Int :=
  Option.bind (t_CheckExpr k e_0) fun p2 => some p2.2
theorem t_exprErr_c {k : Nat} {e_0 : List Nd} {c0 : Ck} {r : Int} (h : t_exprErr k e_0 = some r) : PCall Tryz.prog 58 [(.isl (e_0.map Nd.cells) c0)] (.int .i64 r) := by
  refine PCall.lw (.isl .nil) (PCall.of_empty (PuL.mem (.cons (pu_sl Nd.pu _) .nil)) (MCall_of_W ok58 (by simp) (W_start ?_)) (.int _ _)); unfold t_exprErr at h; unfold ac58; obtain ⟨p2, e1, h⟩ := bind_E h; try refine gos_ ?_
  refine mcall_pure (t_CheckExpr_c e1) ?_; obtain rfl := som_E h; try refine gos_ ?_
  exact (.pure _ (.int _ _))
end Go.VL
end
section
namespace Go.VL
theorem hasP_eq (s p : Str) : g_HasPrefix_125 s p = some (decide (p.length <= s.length) && decide (s.take p.length = p)) := by
  unfold g_HasPrefix_125 g_HasPrefix_179; by_cases h : p.length <= s.length
  · have h' : (s.length : Int) >= (p.length : Int) := by omega
    simp only [h, h', decide_true, cond_true, if_true, Option.bind_some, Bool.true_and, beq_str]
  · have h' : ¬ (s.length : Int) >= (p.length : Int) := by omega
    simp only [h, h', decide_false, cond_false, Option.bind_some, Bool.false_and]
theorem hasP3 (s : Str) (a b c : UInt8) : g_HasPrefix_125 s [a, b, c] = some (decide (s.take 3 = [a, b, c])) := by
  rw [hasP_eq]; congr 1
  show (decide (3 <= s.length) && decide (s.take 3 = [a, b, c])) = _
  by_cases h : s.take 3 = [a, b, c]
  · have := congrArg List.length h; rw [List.length_take] at this; have h3 : 3 <= s.length := by simp at this; omega
    simp [h, h3]
  · simp [h]
theorem resL_mem (s : Str) : decide (s ∈ resL) = (decide (s ∈ rsv) || isFx s) := by
  have h1 : resL = rsv ++ [[66, 79, 79, 76, 69, 65, 78], [83, 84, 82, 73, 78, 71]] := by kernel_rfl
  have h2 : ([84, 82, 85, 69] : Str) ∈ rsv := by decide +kernel
  have h3 : ([70, 65, 76, 83, 69] : Str) ∈ rsv := by decide +kernel
  rw [h1]; unfold isFx; by_cases a : s = [84, 82, 85, 69]
  · subst a; simp [h2]
  by_cases b : s = [70, 65, 76, 83, 69]
  · subst b; simp [h3]
  by_cases c : s ∈ rsv <;> simp [a, b, c]
theorem resL_len : resL.length = 52 := by kernel_rfl
theorem bytesI_len (s : Str) : (bytesI s).length = s.length := by simp [bytesI]
theorem bytesI_get (s : Str) {i : Nat} (h : i < s.length) : (bytesI s)[i]? = some (s[i].toNat : Int) := by simp [bytesI, h]
theorem wrapb (c : UInt8) : IntKind.wrap .i64 (c.toNat : Int) = (c.toNat : Int) := by have := c.toNat_lt; exact wrap64 (by omega) (by omega)
def nLet (s : Str) : Nat := s.countP isLet
theorem nLet_any (s : Str) : decide ((nLet s : Int) > 0) = s.any isLet := by
  unfold nLet
  induction s with
  | nil => rfl
  | cons c l ih =>
    rw [List.countP_cons, List.any_cons]; by_cases h : isLet c = true
    · simp only [h, if_true, Bool.true_or, decide_eq_true_eq]; omega
    · rw [if_neg h, Nat.add_zero, ih]; simp [h]
theorem t_isName_p1_eq (c : UInt8) : (Option.bind (t_spans (c.toNat : Int) 97 122) fun p26 => t_isName_p1 (c.toNat : Int) p26) = some (isLet c) := by
  unfold t_isName_p1; simp only [t_spans_eq, Option.bind_some, wrapb]; unfold isLet; have e1 : ((97 : Int) <= (c.toNat : Int) /\ (c.toNat : Int) <= 122) = (97 <= c.toNat /\ c.toNat <= 122) := by rw [eq_iff_iff]; omega
  have e2 : ((65 : Int) <= (c.toNat : Int) /\ (c.toNat : Int) <= 90) = (65 <= c.toNat /\ c.toNat <= 90) := by rw [eq_iff_iff]; omega
  simp only [e1, e2]; cases decide (97 <= c.toNat /\ c.toNat <= 122) <;> rfl
theorem t_isName_ev (s : Str) : Ev (fun k => t_isName k s) (rName s) := by
  unfold t_isName t_isName_p0; simp only [t_spans_eq, Option.bind_some, hasP3]; by_cases h1 : 1 <= s.length /\ s.length <= 24
  · have e1 : (decide ((1 : Int) <= (s.length : Int) /\ (s.length : Int) <= 24)) = true := decide_eq_true (by omega); simp only [e1, Bool.not_true, cond_false]; refine Ev.bind (x := wfP s || decide (s ∈ resL)) ?_ ?_
    · unfold wfP; cases decide (s.take 3 = [87, 70, 95])
      · cases decide (s.take 3 = [83, 70, 95])
        · exact Ev.bind (g_Contains_ev _ _ (by rw [resL_len]; omega)) (Ev.some' (by simp only [Bool.false_or]))
        · exact Ev.some
      · exact Ev.some
    · have hspec : rName s = (!(wfP s || decide (s ∈ resL)) && s.all chOk && s.any isLet) := by
        rw [resL_mem]; unfold rName bName; simp only [h1, and_self, decide_true, Bool.true_and]; cases decide (s ∈ rsv) <;> cases isFx s <;> cases wfP s <;> cases s.all chOk <;> cases s.any isLet <;> rfl
      rw [hspec]; cases (wfP s || decide (s ∈ resL))
      · simp only [cond_false, Bool.not_false, Bool.true_and]; have hb : s.length <= 1099511627776 := by omega
        have key : ∀ m : Nat, m <= 0 -> Ev (fun k => t_isName_b0 k (m : Int) (bytesI s) (s.length : Int) ((0 : Nat) : Int)) (if (s.drop 0).all chOk = true then .inl ((m + nLet (s.drop 0) : Nat) : Int) else .inr false) := by
          refine down0 (len := s.length) (p := fun i => ∀ m : Nat, m <= i -> Ev (fun k => t_isName_b0 k (m : Int) (bytesI s) (s.length : Int) (i : Int)) (if (s.drop i).all chOk = true then .inl ((m + nLet (s.drop i) : Nat) : Int) else .inr false)) ?_ fun i hi ih m hm => ?_
          · intro m hm; refine Ev.succ ?_; simp only [t_isName_b0]; exact Ev.cF (dnlt _) (Ev.some' (by simp only [List.drop_length, List.all_nil, if_true, nLet, List.countP_nil, Nat.add_zero]))
          · refine Ev.succ ?_; have hp1 := t_isName_p1_eq s[i]; simp only [t_spans_eq, Option.bind_some] at hp1; simp only [t_isName_b0, Int.toNat_natCast, bytesI_get s hi, Option.bind_some, nn, if_true, dlt hi, cond_true, wsucc hi hb, t_spans_eq, wrapb]; refine Ev.bind0 hp1 ?_; have hcount : nLet (s.drop i) = (if isLet s[i] = true then 1 else 0) + nLet (s.drop (i + 1)) := by
              unfold nLet; rw [drop_cons hi, List.countP_cons, Nat.add_comm]
            rw [hcount]; have hall : (s.drop i).all chOk = (chOk s[i] && (s.drop (i + 1)).all chOk) := by rw [drop_cons hi, List.all_cons]
            rw [hall]; by_cases h2 : isLet s[i] = true
            · have hc : chOk s[i] = true := by unfold chOk; rw [h2]; rfl
              refine Ev.cT h2 ?_; rw [wsucc (i := m) (n := i + 1) (by omega) (by omega)]; refine (ih (m + 1) (by omega)).to ?_; simp only [hc, h2, if_true, Bool.true_and, Nat.add_assoc]
            · have h2' : isLet s[i] = false := by simpa using h2
              refine Ev.cF h2' ?_; simp only [h2', Bool.false_eq_true, if_false, Nat.zero_add]; have e3 : ((48 : Int) <= (s[i].toNat : Int) /\ (s[i].toNat : Int) <= 57) = (48 <= s[i].toNat /\ s[i].toNat <= 57) := by rw [eq_iff_iff]; omega
              by_cases h3 : 48 <= s[i].toNat /\ s[i].toNat <= 57
              · have hc : chOk s[i] = true := by unfold chOk isDig; simp [h3]
                refine Ev.cT (decide_eq_true (e3 ▸ h3)) ((ih m (by omega)).to ?_); simp only [hc, Bool.true_and]
              · refine Ev.cF (decide_eq_false (e3 ▸ h3)) ?_; by_cases h4 : s[i].toNat = 95
                · have hc : chOk s[i] = true := by unfold chOk; simp [h4]
                  refine Ev.cF (by rw [h4]; rfl) ((ih m (by omega)).to ?_); simp only [hc, Bool.true_and]
                · have hc : chOk s[i] = false := by unfold chOk isDig; rw [h2']; simp [h4]; omega
                  refine Ev.cT (by rw [bne_iff_ne]; omega) (Ev.some' ?_); simp only [hc, Bool.false_and, Bool.false_eq_true, if_false]
        have key0 := key 0 (Nat.le_refl _); rw [List.drop_zero, Nat.zero_add] at key0; simp only [bytesI_len]; refine Ev.bind key0 ?_; by_cases h3 : s.all chOk = true
        · simp only [h3, if_true, sum_L, Bool.true_and]; exact Ev.some' (nLet_any s)
        · simp only [h3, if_false, sum_R]; exact Ev.some' (by simp [h3])
      · exact Ev.some
  · have e1 : (decide ((1 : Int) <= (s.length : Int) /\ (s.length : Int) <= 24)) = false := decide_eq_false (by omega); simp only [e1, Bool.not_false, cond_true, Option.bind_some]; exact Ev.some' (by simp [rName, bName, h1])
theorem bang_index (s : Str) : (Lib.indexByte s 33 = -1 /\ bang s = none) \/ ∃ i : Nat, Lib.indexByte s 33 = (i : Int) /\ i < s.length /\ bang s = some (s.take i, s.drop (i + 1)) := by
  induction s with
  | nil => exact .inl ⟨rfl, rfl⟩
  | cons c l ih =>
    by_cases h : c = 33
    · subst h; exact .inr ⟨0, rfl, by simp, by simp [bang]⟩
    · have hc : (c == 33) = false := beq_eq_false_iff_ne.2 h; rcases ih with ⟨h1, h2⟩ | ⟨i, h1, h2, h3⟩
      · exact .inl ⟨by simp [Lib.indexByte, hc, h1], by simp [bang, h, h2]⟩
      · refine .inr ⟨i + 1, ?_, by simp; omega, by simp [bang, h, h3]⟩; have : ((i : Int) == -1) = false := by rw [beq_eq_false_iff_ne]; omega
        simp [Lib.indexByte, hc, h1, this]
theorem rName_len {s : Str} (h : rName s = true) : s.length <= 24 := by
  unfold rName bName at h; simp only [Bool.and_eq_true, decide_eq_true_eq] at h; exact h.1.1.1.1.1.2
theorem t_isCalled_ev (s : Str) (hb : s.length <= 1000000) : Ev (fun k => t_isCalled k s) (rTerm s) := by
  unfold t_isCalled idx1; by_cases hl : s.length <= 49
  · refine Ev.cF (decide_eq_false (by omega)) ?_; unfold rTerm; rcases bang_index s with ⟨h1, h2⟩ | ⟨i, h1, h2, h3⟩
    · simp only [h1, h2, Option.bind_some]; refine Ev.cF (by decide) (Ev.bind (t_isName_ev s) ?_); cases rName s <;> exact Ev.some
    · simp only [h1, h3, Option.bind_some]; refine Ev.cT (decide_eq_true (by omega)) (Ev.ifp ⟨by omega, by omega⟩ ?_); rw [wsucc h2 (by omega)]; refine Ev.ifp ⟨by omega, by omega⟩ (Ev.bind (t_isName_ev _) ?_); simp only [Int.toNat_natCast]; cases rName (s.take i)
      · exact Ev.some
      · simp only [cond_true, Bool.true_and]; exact Ev.bind (t_isName_ev _) Ev.some
  · refine Ev.cT (decide_eq_true (by omega)) (Ev.some' ?_); unfold rTerm; rcases bang_index s with ⟨h1, h2⟩ | ⟨i, h1, h2, h3⟩
    · simp only [h2]; cases h : rName s
      · rfl
      · exact absurd (rName_len h) (by omega)
    · simp only [h3]; cases h : rName (s.take i)
      · rfl
      · cases h' : rName (s.drop (i + 1))
        · rfl
        · have a := rName_len h; have b := rName_len h'; rw [List.length_take] at a; rw [List.length_drop] at b; omega
theorem t_isText_eq (s : Str) : t_isText s = some (plainB s) := by
  unfold t_isText plainB; have h : (!odds s) = s.all plainC := by
    unfold odds
    induction s with
    | nil => rfl
    | cons c l ih =>
      rw [List.any_cons, List.all_cons, Bool.not_or, ih]; congr 1
      unfold oddR plainC; generalize c.toNat = n; by_cases h1 : 32 <= n <;> by_cases h2 : n <= 126 <;> by_cases h3 : n = 34 <;> by_cases h4 : n = 92 <;> simp [h1, h2, h3, h4]
  rw [h]; by_cases hl : s.length <= 40
  · have : (s.length : Int) <= 40 := by omega
    simp [hl, this]
  · have : ¬ (s.length : Int) <= 40 := by omega
    simp [hl, this]
theorem opIn_none {l : List Operator} {t : Str} (h : ¬ t ∈ l.map (·.text)) : opIn l t = (opNone, false) := by
  induction l with
  | nil => rfl
  | cons o l ih =>
    simp only [List.map_cons, List.mem_cons, not_or] at h; rw [opIn, if_neg (fun e => h.1 e.symm), ih h.2]
theorem opLR (t : Str) : opIn tabL t = opIn tabR t := by
  have h1 : ((tabL.map (·.text)).all fun t => decide (opIn tabL t = opIn tabR t)) = true := by kernel_rfl
  have h2 : ((tabR.map (·.text)).all fun t => decide (t ∈ tabL.map (·.text))) = true := by kernel_rfl
  by_cases h : t ∈ tabL.map (·.text)
  · exact of_decide_eq_true (List.all_eq_true.1 h1 t h)
  · rw [opIn_none h, opIn_none (fun h' => h (of_decide_eq_true (List.all_eq_true.1 h2 t h')))]
theorem tabL_len : tabL.length = 42 := by kernel_rfl
theorem t_operatorOf_ev (t : Str) : Ev (fun k => t_operatorOf k t) (opIn tabR t) := by
  rw [<- opLR]; have hl : tabL.length <= 1099511627776 := by rw [tabL_len]; omega
  have key : ∃ o : Unit ⊕ Int, Ev (fun k => g_IndexFunc_api_Operator_api_Operator_at112_b0 k tabL t (tabL.length : Int) ((0 : Nat) : Int)) o /\ ((o = .inl () /\ opIn (tabL.drop 0) t = (opNone, false)) \/ ∃ (j : Nat) (x : Operator), o = .inr (j : Int) /\ tabL[j]? = some x /\ opIn (tabL.drop 0) t = (x, true)) := by
    refine down0 (len := tabL.length) (p := fun i => ∃ o : Unit ⊕ Int, Ev (fun k => g_IndexFunc_api_Operator_api_Operator_at112_b0 k tabL t (tabL.length : Int) (i : Int)) o /\ ((o = .inl () /\ opIn (tabL.drop i) t = (opNone, false)) \/ ∃ (j : Nat) (x : Operator), o = .inr (j : Int) /\ tabL[j]? = some x /\ opIn (tabL.drop i) t = (x, true))) ?_ fun i hi ⟨o, ih, ho⟩ => ?_
    · refine ⟨.inl (), Ev.succ ?_, .inl ⟨rfl, by simp [opIn]⟩⟩; simp only [g_IndexFunc_api_Operator_api_Operator_at112_b0]; exact Ev.cF (dnlt _) Ev.some
    · by_cases h : tabL[i].text = t
      · refine ⟨.inr (i : Int), Ev.succ ?_, .inr ⟨i, tabL[i], rfl, getE hi, by rw [drop_cons hi, opIn, if_pos h]⟩⟩; simp only [g_IndexFunc_api_Operator_api_Operator_at112_b0, t_operatorOf_1, Int.toNat_natCast, getE hi, Option.bind_some, nn, if_true, dlt hi, cond_true, wsucc hi hl]; exact Ev.cT (by rw [beq_iff_eq]; exact h) Ev.some
      · refine ⟨o, Ev.succ ?_, by rw [drop_cons hi, opIn, if_neg h]; exact ho⟩; simp only [g_IndexFunc_api_Operator_api_Operator_at112_b0, t_operatorOf_1, Int.toNat_natCast, getE hi, Option.bind_some, nn, if_true, dlt hi, cond_true, wsucc hi hl]; exact Ev.cF (by rw [beq_eq_false_iff_ne]; exact h) ih
  obtain ⟨o, h1, h2⟩ := key; rw [List.drop_zero] at h2; unfold t_operatorOf g_IndexFunc_api_Operator_api_Operator_at112; rcases h2 with ⟨rfl, h2⟩ | ⟨j, x, rfl, h3, h2⟩
  · refine Ev.bind (x := -1) (Ev.bind h1 Ev.some) ?_; rw [h2]; exact Ev.cT (by decide) Ev.some
  · refine Ev.bind (x := (j : Int)) (Ev.bind h1 Ev.some) ?_; rw [h2]; simp only [Int.toNat_natCast, h3, Option.bind_some, nn, if_true]; exact Ev.cF (decide_eq_false (by omega)) Ev.some
end Go.VL
end
section
namespace Go.VL
def orL : List Int -> Int
  | [] => 0
  | a :: l => if a = 0 then orL l else a
theorem g_Or_ev (l : List Int) (hl : l.length <= 1099511627776) : Ev (fun k => g_Or_api_Errno k l) (orL l) := by
  have key : Ev (fun k => g_Or_api_Errno_b0 k l (l.length : Int) ((0 : Nat) : Int)) (if orL (l.drop 0) = 0 then .inl () else .inr (orL (l.drop 0))) := by
    refine down0 (len := l.length) (p := fun i => Ev (fun k => g_Or_api_Errno_b0 k l (l.length : Int) (i : Int)) (if orL (l.drop i) = 0 then .inl () else .inr (orL (l.drop i)))) ?_ fun i hi ih => ?_
    · refine Ev.succ ?_; simp only [g_Or_api_Errno_b0]; exact Ev.cF (dnlt _) (Ev.some' (by simp [orL]))
    · refine Ev.succ ?_; simp only [g_Or_api_Errno_b0, Int.toNat_natCast, getE hi, Option.bind_some, nn, if_true, dlt hi, cond_true, wsucc hi hl]; rw [drop_cons hi, orL]; by_cases h : l[i] = 0
      · refine Ev.cF (by rw [h]; rfl) (ih.to ?_); simp only [h, if_true]
      · refine Ev.cT (by rw [bne_iff_ne]; exact h) (Ev.some' ?_); simp only [h, if_false]
  unfold g_Or_api_Errno; refine Ev.bind key ?_; rw [List.drop_zero]; by_cases h : orL l = 0
  · simp only [h, if_true, sum_L]; exact Ev.some
  · simp only [h, if_false, sum_R]; exact Ev.some
theorem t_anyBad_ev (l : List Str) (hl : l.length <= 1099511627776) : Ev (fun k => g_ContainsFunc_string_string_at145 k l) (!l.all rName) := by
  have key : ∃ o : Unit ⊕ Int, Ev (fun k => g_IndexFunc_string_string_at145_b0 k l (l.length : Int) ((0 : Nat) : Int)) o /\ ((o = .inl () /\ (l.drop 0).all rName = true) \/ (∃ j : Nat, o = .inr (j : Int)) /\ (l.drop 0).all rName = false) := by
    refine down0 (len := l.length) (p := fun i => ∃ o : Unit ⊕ Int, Ev (fun k => g_IndexFunc_string_string_at145_b0 k l (l.length : Int) (i : Int)) o /\ ((o = .inl () /\ (l.drop i).all rName = true) \/ (∃ j : Nat, o = .inr (j : Int)) /\ (l.drop i).all rName = false)) ?_ fun i hi ⟨o, ih, ho⟩ => ?_
    · refine ⟨.inl (), Ev.succ ?_, .inl ⟨rfl, by simp⟩⟩; simp only [g_IndexFunc_string_string_at145_b0]; exact Ev.cF (dnlt _) Ev.some
    · have hn : Ev (fun k => t_namesErr_1 k l[i]) (!rName l[i]) := by unfold t_namesErr_1; exact Ev.bind (t_isName_ev _) Ev.some
      by_cases h : rName l[i] = true
      · refine ⟨o, Ev.succ ?_, by rw [drop_cons hi, List.all_cons, h, Bool.true_and]; exact ho⟩; simp only [g_IndexFunc_string_string_at145_b0, Int.toNat_natCast, getE hi, Option.bind_some, nn, if_true, dlt hi, cond_true, wsucc hi hl]; exact Ev.bind hn (Ev.cF (by rw [h]; rfl) ih)
      · have h : rName l[i] = false := by simpa using h
        refine ⟨.inr (i : Int), Ev.succ ?_, .inr ⟨⟨i, rfl⟩, by rw [drop_cons hi, List.all_cons, h, Bool.false_and]⟩⟩; simp only [g_IndexFunc_string_string_at145_b0, Int.toNat_natCast, getE hi, Option.bind_some, nn, if_true, dlt hi, cond_true, wsucc hi hl]; exact Ev.bind hn (Ev.cT (by rw [h]; rfl) Ev.some)
  obtain ⟨o, h1, h2⟩ := key; rw [List.drop_zero] at h2; unfold g_ContainsFunc_string_string_at145; rcases h2 with ⟨rfl, h2⟩ | ⟨⟨j, rfl⟩, h2⟩
  · refine Ev.bind (x := -1) (by unfold g_IndexFunc_string_string_at145; exact Ev.bind h1 Ev.some) (Ev.some' ?_); rw [h2]; rfl
  · refine Ev.bind (x := (j : Int)) (by unfold g_IndexFunc_string_string_at145; exact Ev.bind h1 Ev.some) (Ev.some' ?_); rw [h2]; simp
theorem t_dup_ev (a b : Int) (c : Str) (l : List Str) (d : List Int) (hl : l.length <= 1099511627776) : Ev (fun k => t_namesErr_b0 k a b c l d false l (l.length : Int) 0) (dupB [] l) := by
  have key : ∀ x : Bool, Ev (fun k => t_namesErr_b0 k a b c l d x l (l.length : Int) ((0 : Nat) : Int)) (x || dupB (l.take 0) (l.drop 0)) := by
    refine down0 (len := l.length) (p := fun i => ∀ x : Bool, Ev (fun k => t_namesErr_b0 k a b c l d x l (l.length : Int) (i : Int)) (x || dupB (l.take i) (l.drop i))) (fun x => ?_) fun i hi ih x => ?_
    · refine Ev.succ ?_; simp only [t_namesErr_b0]; exact Ev.cF (dnlt _) (Ev.some' (by simp [dupB]))
    · refine Ev.succ ?_; have h2 : i <= l.length := by omega
      simp only [t_namesErr_b0, Int.toNat_natCast, getE hi, Option.bind_some, nn, if_true, dlt hi, cond_true, wsucc hi hl, true_and, h2]; rw [drop_cons hi, dupB, <- List.take_succ_eq_append_getElem hi]; cases x
      · refine Ev.cF rfl (Ev.bind (g_Contains_ev _ _ (by rw [List.length_take]; omega)) ?_); simp only [Bool.false_or]; exact ih _
      · exact Ev.cT rfl ((ih true).to (by simp))
  exact key false
def badT (n : Nd) : Bool := !(n.names.all rName) || (decide (n.kind = 2) && !isFx n.text && !rTerm n.text) || (decide (n.kind = 3) && !(opIn tabR n.text).2 && !rTerm n.text) || (decide (n.kind = 18) && !rName n.text)
def arT (n : Nd) : Bool := decide (n.kind = 3) && (opIn tabR n.text).2 && !inB (n.args.length : Int) (opIn tabR n.text).1.least (opIn tabR n.text).1.most
def namesT (n : Nd) : Int := if badT n = true then 7 else if arT n = true then 17 else if dupB [] n.names = true then 12 else 0
theorem t_namesErr_ev (n : Nd) (h1 : n.text.length <= 1000000) (h2 : n.names.length <= 1000000) : Ev (fun k => t_namesErr k n) (namesT n) := by
  unfold t_namesErr; refine Ev.bind (t_anyBad_ev _ (by omega)) (Ev.bind (t_operatorOf_ev _) (Ev.bind (x := (badT n, arT n)) ?_ ?_))
  · unfold t_namesErr_j4 badT arT inB; by_cases a : n.kind = 2
    · simp only [a]; refine Ev.cT rfl (Ev.bind (x := !(n.names.all rName) || (!isFx n.text && !rTerm n.text)) ?_ (Ev.some' (by simp))); unfold t_namesErr_p0; cases n.names.all rName
      · exact Ev.some
      · refine Ev.cF rfl ?_; simp only [t_isFixed_eq, Option.bind_some]; cases isFx n.text
        · exact Ev.bind (t_isCalled_ev _ h1) (Ev.some' (by simp))
        · exact Ev.some
    by_cases b : n.kind = 3
    · simp only [b]; refine Ev.cF rfl (Ev.cT rfl (Ev.bind (x := !(n.names.all rName) || (!(opIn tabR n.text).2 && !rTerm n.text)) ?_ ?_))
      · unfold t_namesErr_p1; cases n.names.all rName
        · exact Ev.some
        · refine Ev.cF rfl ?_; cases (opIn tabR n.text).2
          · exact Ev.bind (t_isCalled_ev _ h1) (Ev.some' (by simp))
          · exact Ev.some
      · unfold t_namesErr_p2; simp only [t_spans_eq, Option.bind_some]; cases (opIn tabR n.text).2
        · exact Ev.some' (by simp)
        · exact Ev.some' (by simp)
    by_cases c : n.kind = 18
    · simp only [c]; refine Ev.cF rfl (Ev.cF rfl (Ev.cT rfl (Ev.bind (x := !(n.names.all rName) || !rName n.text) ?_ (Ev.some' (by simp))))); unfold t_namesErr_p3; cases n.names.all rName
      · exact Ev.some
      · exact Ev.cF rfl (Ev.bind (t_isName_ev _) (Ev.some' (by simp)))
    · refine Ev.cF (beq_eq_false_iff_ne.2 a) (Ev.cF (beq_eq_false_iff_ne.2 b) (Ev.cF (beq_eq_false_iff_ne.2 c) (Ev.some' ?_))); simp [a, b, c]
  · refine Ev.bind (t_dup_ev _ _ _ n.names _ (by omega)) ?_; simp only [t_wrong_eq, Option.bind_some]; refine Ev.bind (g_Or_ev _ (by simp)) (Ev.some' ?_); unfold namesT; cases badT n <;> cases arT n <;> cases dupB [] n.names <;> rfl
def shT (n : Nd) : Shape :=
  if n.kind = 0 then Shape.mk (0, 0) (0, 0) false true else
  if n.kind = 1 \/ n.kind = 2 then Shape.mk (0, 0) (0, 0) true false else
  if n.kind = 3 then (if (opIn tabR n.text).2 = true then Shape.mk (0, 0) ((n.args.length : Int), (n.args.length : Int)) true false else Shape.mk (0, 0) (1, 4) true false) else
  if n.kind = 4 \/ n.kind = 5 then Shape.mk (0, 0) (0, 30) false false else
  if n.kind = 6 \/ n.kind = 12 then Shape.mk (1, 1) (2, 2) false false else
  if n.kind = 7 \/ n.kind = 8 \/ n.kind = 9 \/ n.kind = 13 then Shape.mk (1, 4) ((n.names.length : Int) + 1, (n.names.length : Int) + 1) false false else
  if n.kind = 10 \/ n.kind = 11 then Shape.mk (1, 4) (1, 1) false false else
  if n.kind = 14 then Shape.mk (0, 0) (2, 5) false false else
  if n.kind = 16 \/ n.kind = 17 then Shape.mk (1, 30) ((n.names.length : Int), (n.names.length : Int)) false false else
  if n.kind = 18 then Shape.mk (0, 0) (1, 1) true false else
  if n.kind = 19 \/ n.kind = 21 then Shape.mk (0, 0) (3, 3) false false else
  if n.kind = 20 then Shape.mk (0, 0) (0, 0) false false else
  if n.kind = 22 then Shape.mk (0, 0) (2, 30) false false else
  if n.kind = 23 then Shape.mk (1, 5) (2, 2) false true else
  if n.kind = 24 then Shape.mk (1, 4) (1, 1) false false else Shape.mk (0, 0) (2, 2) false false
theorem kinds {k : Int} (h : inB k 0 28 = true) : k = 0 \/ k = 1 \/ k = 2 \/ k = 3 \/ k = 4 \/ k = 5 \/ k = 6 \/ k = 7 \/ k = 8 \/ k = 9 \/ k = 10 \/ k = 11 \/ k = 12 \/ k = 13 \/ k = 14 \/ k = 15 \/ k = 16 \/ k = 17 \/ k = 18 \/ k = 19 \/ k = 20 \/ k = 21 \/ k = 22 \/ k = 23 \/ k = 24 \/ k = 25 \/ k = 26 \/ k = 27 \/ k = 28 := by
  unfold inB at h; rw [decide_eq_true_eq] at h; omega
theorem t_shapeOf_ev (n : Nd) (hk : inB n.kind 0 28 = true) (h2 : n.names.length <= 1000000) : Ev (fun k => t_shapeOf k n) (shT n) := by
  have hw : IntKind.wrap .i64 ((n.names.length : Int) + 1) = (n.names.length : Int) + 1 := wrap64 (by omega) (by omega); rcases kinds hk with h | h | h | h | h | h | h | h | h | h | h | h | h | h | h | h | h | h | h | h | h | h | h | h | h | h | h | h | h
  case' inr.inr.inr.inl =>
    unfold t_shapeOf t_shapeOf_j0 shT; simp only [h]; refine Ev.cF rfl ?_; refine Ev.cg (Ev.bind (t_operatorOf_ev n.text) (g := fun k (p18 : Operator × Bool) => cond p18.2 (some (Shape.mk (0, 0) ((n.args.length : Int), (n.args.length : Int)) true false)) (some (Shape.mk (0, 0) (1, 4) true false))) ?_) (fun k => rfl); cases (opIn tabR n.text).2 <;> exact Ev.some
  all_goals
    unfold t_shapeOf t_shapeOf_j0 t_shapeOf_j1 t_shapeOf_j2 t_shapeOf_j3 t_shapeOf_j4 t_shapeOf_j5 t_shapeOf_j6 t_shapeOf_1 shT; simp only [h, hw]; exact Ev.some
end Go.VL
end
section
namespace Go.VL
theorem shT_ok (n : Nd) (hk : inB n.kind 0 28 = true) : (inB (n.names.length : Int) (shT n).names.1 (shT n).names.2 && inB (n.args.length : Int) (shT n).operands.1 (shT n).operands.2) = shapeOk n := by
  have d {a b : Int} (P : Prop) [Decidable P] (h : a = b) (x y : Int) : inB a x y = inB b x y := by rw [h]
  rcases kinds hk with h | h | h | h | h | h | h | h | h | h | h | h | h | h | h | h | h | h | h | h | h | h | h | h | h | h | h | h | h
  case' inr.inr.inr.inl =>
    unfold shT shapeOk; simp only [h]; cases (opIn tabR n.text).2
    · show (inB _ 0 0 && inB _ 1 4) = (inB _ 0 0 && inB _ 1 4)
      simp [rShape, r_shape, r_shape_j0]
    · show (inB _ 0 0 && inB _ _ _) = (inB _ 0 0 && inB _ 0 _)
      unfold inB; simp [rShape, r_shape, r_shape_j0]
  all_goals
    unfold shT shapeOk; simp only [h]; unfold inB; rw [Bool.eq_iff_iff]; simp [rShape, r_shape, r_shape_j0, r_shape_j1, r_shape_j2, r_shape_j3, r_shape_j4, r_shape_j5, r_shape_j6]; try omega
def clT (n : Nd) : Bool := ((shT n).text || decide (n.text = [])) && ((shT n).number || decide (n.n = 0)) && (!decide (n.kind = 1) || plainB n.text) && (!decide (n.kind = 23) || inB n.n 0 1)
theorem clT_eq (n : Nd) (hk : inB n.kind 0 28 = true) : clT n = cleanB n := by
  rcases kinds hk with h | h | h | h | h | h | h | h | h | h | h | h | h | h | h | h | h | h | h | h | h | h | h | h | h | h | h | h | h
  case' inr.inr.inr.inl =>
    unfold clT cleanB shT; simp only [h]; cases (opIn tabR n.text).2 <;> simp
  all_goals
    unfold clT cleanB shT; simp only [h]; simp [and_comm]
theorem namesT_eq (n : Nd) : namesT n = if nameErr n ≠ 0 then nameErr n else if dupB [] n.names = true then 12 else 0 := by
  unfold namesT badT arT nameErr; cases n.names.all rName
  · simp
  by_cases a : n.kind = 2
  · simp only [a]; cases isFx n.text <;> cases rTerm n.text <;> simp
  by_cases b : n.kind = 3
  · simp only [b]; cases (opIn tabR n.text).2 <;> cases rTerm n.text <;> cases inB (n.args.length : Int) (opIn tabR n.text).1.least (opIn tabR n.text).1.most <;> simp
  by_cases c : n.kind = 18
  · simp only [c]; cases rName n.text <;> simp
  · simp [a, b, c]
theorem t_r1 {e : List Nd} {i : Nat} {acc : List Int} (h : OkTo e i acc) (hi : i <= 1000000) (l : List Int) : ∀ (m : Nat), m <= l.length -> ∀ nx : Nat, nx <= i -> ∀ tg : Bool,
    ∃ z, t_nodeErr_r1 m acc ((nx : Int) - 1) tg l = some (if plB acc nx (l.take m).reverse = true then .inr (z, tg) else .inl (z, false)) := by
  intro m
  induction m with
  | zero => intro _ nx _ tg; exact ⟨(nx : Int) - 1, by simp [t_nodeErr_r1, plB]⟩
  | succ m ih =>
    intro hm nx hnx tg; have hm' : m < l.length := by omega
    rw [t_nodeErr_r1, getE hm', Option.bind_some, take_rev hm', plB]; by_cases h1 : l[m] = (nx : Int) - 1
    · rw [cond_F (by rw [h1]; simp)]; by_cases h2 : nx < 1
      · refine ⟨(nx : Int) - 1, ?_⟩; rw [cond_T (decide_eq_true (by omega))]; have : ¬ (1 : Int) <= nx := by omega
        simp [this]
      · obtain ⟨j, rfl⟩ : ∃ j, nx = j + 1 := ⟨nx - 1, by omega⟩; have e2 : (((j + 1 : Nat) : Int) - 1) = (j : Int) := by omega
        rw [e2] at h1 ⊢; obtain ⟨n', b, h3, h4, h5, h6, _⟩ := h.at_ j (by omega); obtain ⟨b, rfl⟩ : ∃ b' : Nat, b = b' := ⟨b.toNat, by omega⟩; obtain ⟨z, hz⟩ := ih (by omega) b (by omega) tg; refine ⟨z, ?_⟩; rw [cond_F (decide_eq_false (by omega)), if_pos (by omega), Int.toNat_natCast, h4, Option.bind_some, wrap64 (by omega) (by omega), hz]; have e3 : (1 : Int) <= ((j + 1 : Nat) : Int) := by omega
        simp only [h1, e3, decide_true, Bool.true_and, Option.getD_some]
    · refine ⟨(nx : Int) - 1, ?_⟩; rw [cond_T (by rw [bne_iff_ne]; exact h1)]; simp [h1]
theorem t_nodeErr_ev {e : List Nd} {i : Nat} {acc : List Int} (h : OkTo e i acc) (hi : i <= 1000000) {n : Nd} (hn : e[i]? = some n) (h1 : n.text.length <= 1000000) (h2 : n.names.length <= 1000000) (h3 : n.args.length <= 1000000) :
    Ev (fun k => t_nodeErr k e (i : Int) acc) (nodeSpec (plB acc i n.args.reverse) n) := by
  unfold t_nodeErr; simp only [Int.toNat_natCast, hn, Option.bind_some, nn, if_true, t_spans_eq, t_wrong_eq]; unfold nodeSpec; by_cases hk : inB n.kind 0 28 = true
  case neg => exact Ev.to (Ev.cF (by simpa [inB] using hk) Ev.some) (if_pos (by simpa using hk)).symm
  refine Ev.to ?_ (if_neg (by simp [hk])).symm; refine Ev.cT hk (Ev.bind (t_shapeOf_ev n hk h2) (Ev.bind0 (x := !shapeOk n) ?_ ?_))
  · rw [<- shT_ok n hk]; unfold t_nodeErr_p0 inB; simp only [t_spans_eq, Option.bind_some]; cases decide ((shT n).names.1 <= (n.names.length : Int) /\ (n.names.length : Int) <= (shT n).names.2)
    · rfl
    · rfl
  cases hs : shapeOk n
  · exact Ev.some
  simp only [Bool.not_true, cond_false, Bool.true_eq_false, if_false]; obtain ⟨z, hz⟩ := t_r1 h hi n.args n.args.length (Nat.le_refl _) i (Nat.le_refl _) true; rw [List.take_length] at hz; generalize plB acc (i : Int) n.args.reverse = pl at hz ⊢; have hj : t_nodeErr_j2 acc n.kind n.n n.text n.names n.args (IntKind.wrap .i64 ((i : Int) - 1)) true = some (z, pl) := by
    unfold t_nodeErr_j2; rw [if_pos (by omega), wrap64 (by omega) (by omega), hz]; cases pl <;> rfl
  refine Ev.bind0 hj (Ev.bind0 (x := cleanB n) ?_ ?_)
  · rw [<- clT_eq n hk]; unfold t_nodeErr_p3 clT inB; simp only [t_isText_eq, t_spans_eq, Option.bind_some, beq_str, bne]; have e1 : ((n.n == 0) : Bool) = decide (n.n = 0) := by by_cases h : n.n = 0 <;> simp [h]
    have e2 : ((n.kind == 1) : Bool) = decide (n.kind = 1) := by by_cases h : n.kind = 1 <;> simp [h]
    have e3 : ((n.kind == 23) : Bool) = decide (n.kind = 23) := by by_cases h : n.kind = 23 <;> simp [h]
    simp only [e1, e2, e3]; cases (shT n).text <;> cases (shT n).number <;> cases decide (n.text = []) <;> cases decide (n.n = 0) <;> cases decide (n.kind = 1) <;> cases plainB n.text <;> cases decide (n.kind = 23) <;> rfl
  have fin : Ev (fun k => Option.bind (t_namesErr k n) fun p => Option.bind (g_Or_api_Errno k [if (!(pl && cleanB n)) = true then 5 else 0, if (!decide (n.kind = 23) && !inB n.n 0 10000) = true then 3 else 0, p]) fun q => some q) (orL [if (!(pl && cleanB n)) = true then 5 else 0, if (!decide (n.kind = 23) && !inB n.n 0 10000) = true then 3 else 0, namesT n]) :=
    Ev.bind (t_namesErr_ev n h1 h2) (Ev.bind (g_Or_ev _ (by simp)) Ev.some)
  have hval : orL [if (!(pl && cleanB n)) = true then 5 else 0, if (!decide (n.kind = 23) && !inB n.n 0 10000) = true then 3 else 0, namesT n] =
      if (pl && cleanB n) = false then 5 else if (decide (n.kind = 0) && !inB n.n 0 10000) = true then 3 else if nameErr n ≠ 0 then nameErr n else if dupB [] n.names = true then 12 else 0 := by
    rw [<- namesT_eq]; cases hpc : (pl && cleanB n)
    · rfl
    · have hcl : cleanB n = true := by revert hpc; cases pl <;> simp
      have hrg : (!decide (n.kind = 23) && !inB n.n 0 10000) = (decide (n.kind = 0) && !inB n.n 0 10000) := by
        unfold cleanB at hcl; simp only [Bool.and_eq_true] at hcl; have hx := hcl.1.1.2; by_cases a : n.kind = 0
        · simp [a]
        by_cases b : n.kind = 23
        · simp [b]
        have hx : n.n = 0 := by simpa [a, b] using hx
        simp [a, b, hx, inB]
      simp only [Bool.not_true, Bool.false_eq_true, if_false, Bool.true_eq_false, orL, if_true, hrg]; cases (decide (n.kind = 0) && !inB n.n 0 10000)
      · simp only [Bool.false_eq_true, if_false, if_true]; split
        · rename_i h; exact h.symm
        · rfl
      · rfl
  rw [<- hval]; refine Ev.cg fin fun k => ?_; cases pl
  · simp only [cond_false]; by_cases hl : n.kind = 23
    · simp only [hl]; rfl
    · rw [cond_F (beq_eq_false_iff_ne.2 hl)]; simp only [hl, decide_false, Bool.not_false, Bool.true_and, Bool.false_and]; rfl
  · simp only [cond_true]; by_cases hl : n.kind = 23
    · simp only [hl]; rfl
    · rw [cond_F (beq_eq_false_iff_ne.2 hl)]; simp only [hl, decide_false, Bool.not_false, Bool.true_and]; rfl
theorem t_CheckExpr_b0_ev {e : List Nd} (hL : Lite e) : ∀ i, i <= e.length -> ∀ acc, OkTo e i acc -> Ev (fun k => t_CheckExpr_b0 k e acc (e.length : Int) (i : Int)) (scanN acc (e.drop i)) := by
  have hlen := hL.len; refine down (fun acc h => ?_) (fun i hi ih acc h => ?_)
  · refine Ev.succ ?_; simp only [t_CheckExpr_b0]; exact Ev.cF (dnlt _) (Ev.some' (by simp [scanN]))
  · refine Ev.succ ?_; obtain ⟨h1, h2, h3⟩ := hL.nd i _ (getE hi); simp only [t_CheckExpr_b0]; refine Ev.cT (dlt hi) (Ev.bind (t_nodeErr_ev h (by omega) (getE hi) h1 h2 h3) ?_); rw [drop_cons hi, scanN, h.len]; by_cases hc : nodeSpec (plB acc i e[i].args.reverse) e[i] = 0
    · refine Ev.cF (by rw [hc]; rfl) ?_; have hlen2 := h.len; have hp := nodeSpec_pl hc; have hok := h.succ (getE hi) hp; refine Ev.ifp (by omega) (Ev.bind0 (x := bgOf acc e[i]) ?_ (Ev.ifp (nn i) (Ev.bind0 (x := 0) ?_ ?_)))
      · unfold t_begin bgOf; simp only [Int.toNat_natCast, getE hi, Option.bind_some, nn, if_true]; cases hargs : e[i].args with
        | nil => simp [hlen2]
        | cons a l =>
          have ha := plB_mem h _ i (Nat.le_refl _) hp a (by rw [hargs]; simp); obtain ⟨n', b, h4, h5, _⟩ := h.at_ a.toNat (by omega); rw [cond_F (by rw [beq_eq_false_iff_ne, List.length_cons]; omega), List.getElem?_cons_zero, Option.bind_some, if_pos ha.1, List.getElem?_append_left (by omega), h5]; simp only [h5, Option.getD_some, Option.bind_some]
      · rw [Int.toNat_natCast, List.getElem?_append_right (by omega), hlen2, Nat.sub_self]; rfl
      · have e1 : (acc ++ [0]).set ((i : Int).toNat) (bgOf acc e[i]) = acc ++ [bgOf acc e[i]] := by
          rw [Int.toNat_natCast, List.set_append_right _ _ (by omega), hlen2, Nat.sub_self]; rfl
        rw [e1, wsucc hi (by omega)]; refine (ih _ hok).to ?_; simp only [hc, ne_eq, not_true_eq_false, if_false]
    · refine Ev.cT (by rw [bne_iff_ne]; exact hc) (Ev.some' ?_); simp only [ne_eq, hc, not_false_eq_true, if_true]
end Go.VL
end
section
namespace Go.VL
inductive Tm where
  | mk (x : Nd) (cs : List Tm)
namespace Tm
mutual
def size : Tm -> Nat
  | .mk _ cs => sizes cs + 1
def sizes : List Tm -> Nat
  | [] => 0
  | c :: cs => size c + sizes cs
end
def roots : Nat -> List Tm -> List Int
  | _, [] => []
  | b, c :: cs => ((b + c.size - 1 : Nat) : Int) :: roots (b + c.size) cs
def nd (x : Nd) (b : Nat) (cs : List Tm) : Nd := { x with args := roots b cs }
mutual
def flat (b : Nat) : Tm -> List Nd
  | .mk x cs => flats b cs ++ [nd x b cs]
def flats (b : Nat) : List Tm -> List Nd
  | [] => []
  | c :: cs => flat b c ++ flats (b + c.size) cs
end
theorem flat_mk {b : Nat} {x : Nd} {cs : List Tm} : flat b (.mk x cs) = flats b cs ++ [nd x b cs] := by rw [flat]
theorem flats_cons {b : Nat} {c : Tm} {cs : List Tm} : flats b (c :: cs) = flat b c ++ flats (b + c.size) cs := by rw [flats]
theorem size_pos : ∀ t : Tm, 0 < t.size
  | .mk x cs => by unfold size; omega
mutual
theorem flat_len (b : Nat) : ∀ t : Tm, (flat b t).length = t.size
  | .mk x cs => by unfold flat size; rw [List.length_append, flats_len b cs]; rfl
theorem flats_len (b : Nat) : ∀ cs : List Tm, (flats b cs).length = sizes cs
  | [] => rfl
  | c :: cs => by unfold flats sizes; rw [List.length_append, flat_len b c, flats_len (b + c.size) cs]
end
theorem roots_len : ∀ (b : Nat) (cs : List Tm), (roots b cs).length = cs.length
  | _, [] => rfl
  | b, c :: cs => by unfold roots; rw [List.length_cons, List.length_cons, roots_len (b + c.size) cs]
theorem sizes_append : ∀ a b : List Tm, sizes (a ++ b) = sizes a + sizes b
  | [], b => by simp [sizes]
  | c :: a, b => by simp only [List.cons_append, sizes, sizes_append a b]; omega
theorem flats_append : ∀ (b : Nat) (l m : List Tm), flats b (l ++ m) = flats b l ++ flats (b + sizes l) m
  | b, [], m => by simp [flats, sizes]
  | b, c :: l, m => by simp only [List.cons_append, flats, sizes, flats_append (b + c.size) l m, List.append_assoc, Nat.add_assoc]
theorem roots_append : ∀ (b : Nat) (l m : List Tm), roots b (l ++ m) = roots b l ++ roots (b + sizes l) m
  | b, [], m => by simp [roots, sizes]
  | b, c :: l, m => by simp only [List.cons_append, roots, sizes, roots_append (b + c.size) l m, Nat.add_assoc]
def Seg (e : List Nd) (b : Nat) (s : Tm) : Prop := ∃ pre post, e = pre ++ (flat b s ++ post) /\ pre.length = b
theorem Seg.whole (t : Tm) : Seg (flat 0 t) 0 t := ⟨[], [], by simp, rfl⟩
theorem Seg.node {e : List Nd} {b : Nat} {x : Nd} {cs : List Tm} (h : Seg e b (.mk x cs)) : e[b + sizes cs]? = some (nd x b cs) := by
  obtain ⟨pre, post, rfl, rfl⟩ := h; rw [List.getElem?_append_right (by omega), show pre.length + sizes cs - pre.length = sizes cs by omega]; rw [flat_mk, List.append_assoc, List.getElem?_append_right (by rw [flats_len]; exact Nat.le_refl _), flats_len, Nat.sub_self]; rfl
theorem Seg.kid {e : List Nd} {b : Nat} {x : Nd} {l m : List Tm} {c : Tm} (h : Seg e b (.mk x (l ++ c :: m))) : Seg e (b + sizes l) c := by
  obtain ⟨pre, post, rfl, rfl⟩ := h; refine ⟨pre ++ flats pre.length l, flats (pre.length + sizes l + c.size) m ++ ([nd x pre.length (l ++ c :: m)] ++ post), ?_, by rw [List.length_append, flats_len]⟩; rw [flat_mk, flats_append, flats_cons]; simp only [List.append_assoc]
theorem roots_get {b : Nat} {l m : List Tm} {c : Tm} : (roots b (l ++ c :: m))[l.length]? = some (((b + sizes l + c.size - 1 : Nat) : Int)) := by
  rw [roots_append, List.getElem?_append_right (by rw [roots_len]; exact Nat.le_refl _), roots_len, Nat.sub_self]; rfl
end Tm
end Go.VL
end
