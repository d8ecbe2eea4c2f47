/- Part 3 of the proof: what the theorem rests on. -/
import Derived.Test.YthebklihgmhgoaaGreatDoorKb2
import Derived.Test.YthebklihgmhgoaaGreatDoorProg
import Derived.KernelRfl
import Derived.Below
import Derived.Shelf.Spec.SlicesGrow
import Derived.Shelf.Strings.Builder1
import Derived.Shelf.Strings.Builder2
import Derived.Shelf.Strings.OnBuilder
import Derived.Shelf.Small.Bits
import Derived.Shelf.Strings.Builder2Cap
import Derived.Shelf.Strconv.Itoa0
import Derived.Shelf.Strconv.Itoa1
import Derived.Shelf.LaysM
import Derived.Shelf.Strconv.Itoa2
import Derived.Shelf.Strconv.Itoa3
import Derived.Shelf.Strings.Search1
import Derived.Shelf.Strings.Search2
import Derived.Shelf.Strings.Cut
import Derived.Shelf.Strings.Shaped
import Derived.Shelf.Sort.Plain
import Derived.Shelf.GgClosure.StringsIndexFunc
import Derived.Ground.GgwProg
import Derived.Shelf.GgClosure.StringsIndexFuncTop
import Derived.Shelf.Strings.Prefix
import Derived.Shelf.Strings.Fields
import Derived.Shelf.Unicode.Latin
import Derived.Shelf.Bits.Mul64
import Derived.Shelf.Unicode.Is16White
import Derived.Shelf.Unicode.IsSpaceAny
import Derived.Shelf.Unicode.Is16WhiteD
import Derived.Shelf.Unicode.IsSpaceAnyD
import Derived.Shelf.Strings.FieldsAny
import Derived.Shelf.Strings.FieldsFuncAny
import Derived.Shelf.Unicode.Is16Any
import Derived.Shelf.Unicode.Is32Any
import Derived.Shelf.Unicode.ExclAny
import Derived.Shelf.Strings.FuncGrows
import Derived.Shelf.Slices.Equal
import Derived.Ground.Names2Prog
import Derived.Shelf.Slices.Clone
import Derived.Shelf.Slices.CompactS
import Derived.Shelf.Slices.Cells
import Derived.Shelf.Slices.In.SortNone
import Derived.Shelf.Slices.Empties2
import Derived.Laws.RangeAny
import Derived.IntWalk
set_option linter.unusedVariables false
set_option linter.unusedSectionVars false
set_option linter.unusedSimpArgs false
section
set_option maxRecDepth 100000
namespace Go.VL
open Go.Proofs
def dc (n : Nat) : Bool := ([183, 138, 94] : List Nat).contains n
def ac6_p0 : List AOp := [oMg 29 7 28 false, oMg 30 0 28 false, oCg 31 31 [(.t 29), (.t 30)] 28 false, oMg 32 6 28 false, oRg 33 (.bin .neq .b (.t 31) (.t 32)) 28 false, oR 34 (.pick (.t 28) (.c (.bool true)) (.t 33))]
def ac6 : AC := (.seq (.ops [oR 2 (.mov (.c (.bool false)))]) (.seq (.seq (.ops [oC 8 12 [], oR 9 (.not (.t 8))]) (.cond (.t 9) (.seq (.ops [oR 2 (.mov (.c (.bool false)))]) .ret) .skip)) (.seq (.seq (.ops [oM 10 0, oR 11 (.slen (.t 10)), oB 12 .gtr (.t 11) (.c (.int .i64 100))]) (.cond (.t 12) (.seq (.ops [oR 2 (.mov (.c (.bool true)))]) .ret) .skip)) (.seq (.ops [oM 14 0, oC 15 26 [(.t 14)], oM 13 15, oE 16 13 0, oE 17 13 1, ⟨(some 3), (.d (.alloc [(.str []), (.int .i64 0), (.int .i64 0), (.int .i64 0), (.bool false), (.int .i64 0), (.int .i64 0)])), none⟩, oS 7 3 16, oM 4 17]) (.seq (.ops [oM 19 0, oC 20 27 [(.t 19)], oM 18 20, oE 21 18 0, oE 22 18 1, ⟨(some 5), (.d (.alloc [(.str []), (.int .i64 0), (.int .i64 0), (.int .i64 0), (.bool false), (.int .i64 0), (.int .i64 0)])), none⟩, oS 7 5 21, oM 6 22]) (.seq (.ops [oC 23 28 [], oM 7 23]) (.seq (.seq (.ops ([oM 24 7, oC 25 30 [], oC 26 29 [(.t 24), (.t 25)], oR 27 (.not (.t 26)), oM 28 27] ++ ac6_p0)) (.cond (.t 34) (.seq (.ops [oR 2 (.mov (.c (.bool false)))]) .ret) .skip)) (.seq (.seq (.ops [oM 35 6, oR 36 (.not (.t 35))]) (.cond (.t 36) (.seq (.ops [oM 37 4, oB 38 .eql (.t 37) (.c (.int .i64 10)), oM 39 38, oAg 40 7 3 39 true, oRg 41 (.build [(.str []), (.int .i64 0), (.int .i64 0), (.int .i64 0), (.bool false), (.int .i64 0), (.int .i64 0)] []) 39 true, oRg 42 (.bin .eql (.st [(0, 2), (1, 1), (2, 1), (3, 1), (4, 0), (5, 1), (6, 1)]) (.t 40) (.t 41)) 39 true, oR 43 (.pick (.t 39) (.t 42) (.c (.bool false))), oM 2 43]) .ret) .skip)) (.seq (.ops [oM 44 4, oB 45 .eql (.t 44) (.c (.int .i64 0)), oM 46 45, oAg 47 7 3 46 true, oAg 48 7 5 46 true, oRg 49 (.bin .eql (.st [(0, 2), (1, 1), (2, 1), (3, 1), (4, 0), (5, 1), (6, 1)]) (.t 47) (.t 48)) 46 true, oR 50 (.pick (.t 46) (.t 49) (.c (.bool false))), oM 2 50]) .ret)))))))))
theorem ok6 : FnOk Tryz.prog dc false 6 51 [(.tmp 2)] ac6 := ⟨by kernel_rfl, _, _, Tryz.func6, rfl, by kernel_rfl, rfl, by kernel_rfl, by kernel_rfl⟩
def ac12 : AC := (.seq (.ops [oR 0 (.mov (.c (.bool false)))]) (.seq (.ops [oC 10 45 [], oC 11 17 [(.t 10)], oM 9 11, oE 12 9 0, oE 13 9 1, oM 1 12, oM 2 13]) (.seq (.ops [oC 15 45 [], oC 16 32 [(.t 15)], oM 14 16, oE 17 14 0, oE 18 14 1, oM 3 17, oM 4 18]) (.seq (.ops [oC 20 26 [(.c (.str [92, 99, 100, 111, 116]))], oM 19 20, oE 21 19 0, oE 22 19 1, ⟨(some 5), (.d (.alloc [(.str []), (.int .i64 0), (.int .i64 0), (.int .i64 0), (.bool false), (.int .i64 0), (.int .i64 0)])), none⟩, oS 7 5 21, oM 6 22]) (.seq (.ops [oR 24 (.build [(.int .i64 0), (.int .i64 0), (.str []), (.isl [] .nil), (.isl [] .nil)] [(0, (1, (.c (.int .i64 20))))]), oR 25 (.bsl 5 [(.t 24)]), oC 26 14 [(.t 25)], oM 23 26, oE 27 23 0, oE 28 23 1, oM 7 27, oM 8 28]) (.seq (.ops [oM 29 2, oB 30 .eql (.t 29) (.c (.int .i64 0)), oM 31 30, oMg 32 1 31 true, oBg 33 .eql (.t 32) (.c (.str [97, 32, 43, 32, 98, 32, 42, 32, 99])) 31 true, oR 34 (.pick (.t 31) (.t 33) (.c (.bool false))), oM 35 34, oMg 36 4 35 true, oBg 37 .eql (.t 36) (.c (.int .i64 0)) 35 true, oR 38 (.pick (.t 35) (.t 37) (.c (.bool false))), oM 39 38, oMg 40 3 39 true, oRg 41 (.bsl 1 [(.c (.str [97])), (.c (.str [98])), (.c (.str [99]))]) 39 true, oCg 42 29 [(.t 40), (.t 41)] 39 true, oR 43 (.pick (.t 39) (.t 42) (.c (.bool false))), oM 44 43, oMg 45 6 44 true, oBg 46 .eql (.t 45) (.c (.int .i64 0)) 44 true, oR 47 (.pick (.t 44) (.t 46) (.c (.bool false))), oM 48 47, oFg 49 3 5 48 true, oLg 50 1 49 48 true, oBg 51 .eql (.t 50) (.c (.int .i64 14)) 48 true, oR 52 (.pick (.t 48) (.t 51) (.c (.bool false))), oM 53 52, oFg 54 4 5 53 true, oLg 55 1 54 53 true, oR 56 (.pick (.t 53) (.t 55) (.c (.bool false))), oM 57 56, oMg 58 8 57 true, oBg 59 .eql (.t 58) (.c (.int .i64 30)) 57 true, oR 60 (.pick (.t 57) (.t 59) (.c (.bool false))), oM 61 60, oMg 62 7 61 true, oBg 63 .eql (.t 62) (.c (.int .i64 0)) 61 true, oR 64 (.pick (.t 61) (.t 63) (.c (.bool false))), oM 0 64]) .ret))))))
theorem ok12 : FnOk Tryz.prog dc false 12 65 [(.tmp 0)] ac12 := ⟨by kernel_rfl, _, _, Tryz.func12, rfl, by kernel_rfl, rfl, by kernel_rfl, by kernel_rfl⟩
def ac14_b0 : AC := (.seq (.ops [oB 28 .lss (.t 27) (.t 26)]) (.seq (.cond (.t 28) .skip (.exit 0)) (.seq (.block 1 (.seq (.ops [oM 29 27, oM 6 29]) (.seq (.seq (.ops [oM 30 0, oM 31 6, oM 32 5, oC 33 48 [(.t 30), (.t 31), (.t 32)], oM 7 33]) (.seq (.ops [oM 34 7, oB 35 .neq (.t 34) (.c (.int .i64 0))]) (.cond (.t 35) (.seq (.ops [oM 36 6, oM 37 7, oM 2 36, oM 3 37]) .ret) .skip))) (.seq (.ops [oM 38 5, oR 39 (.bsl 1 [(.c (.int .i64 0))]), ⟨(some 40), (.n (.app 1 8 (.t 38) (.t 39))), none⟩, oM 5 40]) (.ops [oM 41 5, oM 42 6, oM 43 0, oM 44 6, oM 45 5, oC 46 49 [(.t 43), (.t 44), (.t 45)], oX 47 1 41 42, oS 1 47 46]))))) (.ops [oB 48 .add (.t 27) (.c (.int .i64 1)), oM 27 48]))))
def ac14_b1 : AC := (.seq (.ops [oB 60 .lss (.t 59) (.t 58)]) (.seq (.cond (.t 60) .skip (.exit 2)) (.seq (.block 3 (.seq (.ops [oM 61 59, oM 11 61]) (.seq (.ops [oM 62 0, oM 63 11, oM 64 9, oM 65 10, oC 66 51 [(.t 62), (.t 63), (.t 64), (.t 65)]]) (.cond (.t 66) (.seq (.ops [oM 67 11, oM 2 67, oI 3 30]) .ret) .skip)))) (.ops [oB 68 .add (.t 59) (.c (.int .i64 1)), oM 59 68]))))
def ac14 : AC := (.seq (.ops [oI 2 0, oI 3 0]) (.seq (.seq (.ops [oM 12 0, oN 13 12, oB 14 .eql (.t 13) (.c (.int .i64 0)), oC 15 47 [(.t 14), (.c (.int .i64 1))], oM 16 0, oN 17 16, oB 18 .gtr (.t 17) (.c (.int .i64 160)), oC 19 47 [(.t 18), (.c (.int .i64 2))], oR 20 (.bsl 1 [(.t 15), (.t 19)]), oC 21 46 [(.t 20)], oM 4 21]) (.seq (.ops [oM 22 4, oB 23 .neq (.t 22) (.c (.int .i64 0))]) (.cond (.t 23) (.seq (.ops [oM 24 4, oI 2 0, oM 3 24]) .ret) .skip))) (.seq (.ops [oR 5 (.mov (.c (.isl [] .nil)))]) (.seq (.seq (.ops [oM 25 0, oN 26 25, oI 27 0]) (.block 0 (.loop ac14_b0))) (.seq (.ops [oM 49 0, oN 50 49, oB 51 .sub (.t 50) (.c (.int .i64 1)), oM 8 51]) (.seq (.ops [oM 53 0, oC 54 50 [(.t 53)], oM 52 54, oE 55 52 0, oE 56 52 1, oM 9 55, oM 10 56]) (.seq (.seq (.ops [oM 57 0, oN 58 57, oI 59 0]) (.block 2 (.loop ac14_b1))) (.seq (.seq (.ops [oM 69 5, oM 70 8, oX 71 1 69 70, oL 72 1 71, oB 73 .neq (.t 72) (.c (.int .i64 0))]) (.cond (.t 73) (.seq (.ops [oM 74 8, oM 2 74, oI 3 15]) .ret) .skip)) (.seq (.ops [oI 2 0, oI 3 0]) .ret)))))))))
theorem ok14 : FnOk Tryz.prog dc true 14 75 [(.tmp 2), (.tmp 3)] ac14 := ⟨by kernel_rfl, _, _, Tryz.func14, rfl, by kernel_rfl, rfl, by kernel_rfl, by kernel_rfl⟩
def ac17 : AC := (.seq (.ops [oR 2 (.mov (.c (.str []))), oI 3 0]) (.seq (.seq (.ops [oM 6 0, oC 7 58 [(.t 6)], oM 4 7]) (.seq (.ops [oM 8 4, oB 9 .neq (.t 8) (.c (.int .i64 0))]) (.cond (.t 9) (.seq (.ops [oM 10 4, oR 2 (.mov (.c (.str []))), oM 3 10]) .ret) .skip))) (.seq (.ops [oM 11 0, oR 12 (.build [(.isl [] .nil)] [(0, (1, (.t 11)))]), oM 13 0, oN 14 13, oB 15 .sub (.t 14) (.c (.int .i64 1)), oC 16 59 [(.t 12), (.t 15), (.c (.bool false))], oM 5 16]) (.seq (.seq (.ops [oM 17 5, oR 18 (.slen (.t 17)), oB 19 .gtr (.t 18) (.c (.int .i64 20000))]) (.cond (.t 19) (.seq (.ops [oR 2 (.mov (.c (.str []))), oI 3 2]) .ret) .skip)) (.seq (.ops [oM 20 5, oM 2 20, oI 3 0]) .ret)))))
theorem ok17 : FnOk Tryz.prog dc false 17 21 [(.tmp 2), (.tmp 3)] ac17 := ⟨by kernel_rfl, _, _, Tryz.func17, rfl, by kernel_rfl, rfl, by kernel_rfl, by kernel_rfl⟩
def ac23 : AC := (.seq (.ops [oI 2 0]) (.seq (.seq (.ops [oM 3 0]) (.cond (.t 3) (.seq (.ops [oI 2 1]) .ret) .skip)) (.seq (.ops [oI 2 0]) .ret)))
theorem ok23 : FnOk Tryz.prog dc false 23 4 [(.tmp 2)] ac23 := ⟨by kernel_rfl, _, _, Tryz.func23, rfl, by kernel_rfl, rfl, by kernel_rfl, by kernel_rfl⟩
def ac26 : AC := (.seq (.ops [⟨(some 2), (.d (.alloc [(.str []), (.int .i64 0), (.int .i64 0), (.int .i64 0), (.bool false), (.int .i64 0), (.int .i64 0)])), none⟩, oI 3 0]) (.seq (.ops [oM 7 0, oC 8 63 [(.t 7)], oM 6 8, oE 9 6 0, oE 10 6 1, ⟨(some 4), (.d (.alloc [(.str []), (.int .i64 0), (.int .i64 0), (.int .i64 0), (.bool false), (.int .i64 0), (.int .i64 0)])), none⟩, oS 7 4 9, oM 5 10]) (.seq (.par [(oA 11 7 4, false), (oM 12 5, false), (oR 13 (.not (.t 12)), false), (oC 14 47 [(.t 13), (.c (.int .i64 10))], false)] [oS 7 2 11, oM 3 14]) .ret)))
theorem ok26 : FnOk Tryz.prog dc false 26 15 [(.cell 2 7 true), (.tmp 3)] ac26 := ⟨by kernel_rfl, _, _, Tryz.func26, rfl, by kernel_rfl, rfl, by kernel_rfl, by kernel_rfl⟩
def ac27_b0 : AC := (.seq (.seq (.ops [oM 7 5, oM 8 4, oN 9 8, oB 10 .lss (.t 7) (.t 9)]) (.cond (.t 10) .skip (.exit 0))) (.seq (.block 1 (.seq (.ops [oM 13 4, oM 14 5, oX 15 7 13 14, oF 16 0 15, oL 17 1 16, oM 18 0, oB 19 .eql (.t 17) (.t 18)]) (.cond (.t 19) (.seq (.ops [oM 20 4, oM 21 5, oX 22 7 20 21, oA 23 7 22, oS 7 2 23, oR 3 (.mov (.c (.bool true)))]) .ret) .skip))) (.ops [oM 11 5, oB 12 .add (.t 11) (.c (.int .i64 1)), oM 5 12])))
def ac27 : AC := (.seq (.ops [⟨(some 2), (.d (.alloc [(.str []), (.int .i64 0), (.int .i64 0), (.int .i64 0), (.bool false), (.int .i64 0), (.int .i64 0)])), none⟩, oR 3 (.mov (.c (.bool false)))]) (.seq (.ops [oC 6 64 [], oM 4 6]) (.seq (.seq (.ops [oI 5 0]) (.block 0 (.loop ac27_b0))) (.seq (.ops [oR 24 (.build [(.str []), (.int .i64 0), (.int .i64 0), (.int .i64 0), (.bool false), (.int .i64 0), (.int .i64 0)] []), oS 7 2 24, oR 3 (.mov (.c (.bool false)))]) .ret))))
theorem ok27 : FnOk Tryz.prog dc false 27 25 [(.cell 2 7 true), (.tmp 3)] ac27 := ⟨by kernel_rfl, _, _, Tryz.func27, rfl, by kernel_rfl, rfl, by kernel_rfl, by kernel_rfl⟩
def ac28_b0 : AC := (.seq (.ops [oB 7 .lss (.t 6) (.t 5)]) (.seq (.cond (.t 7) .skip (.exit 0)) (.seq (.block 1 (.seq (.ops [oX 8 7 4 6, oA 9 7 8, ⟨(some 3), (.d (.alloc [(.str []), (.int .i64 0), (.int .i64 0), (.int .i64 0), (.bool false), (.int .i64 0), (.int .i64 0)])), none⟩, oS 7 3 9]) (.ops [oM 10 1, oF 11 0 3, oL 12 1 11, oR 13 (.bsl 1 [(.t 12)]), ⟨(some 14), (.n (.app 1 16 (.t 10) (.t 13))), none⟩, oM 1 14]))) (.ops [oB 15 .add (.t 6) (.c (.int .i64 1)), oM 6 15]))))
def ac28 : AC := (.seq (.ops [oR 0 (.mov (.c (.isl [] .nil)))]) (.seq (.ops [oR 1 (.mov (.c (.isl [] .nil)))]) (.seq (.seq (.ops [oC 4 65 [], oN 5 4, oI 6 0]) (.block 0 (.loop ac28_b0))) (.seq (.ops [oM 16 1, oC 17 66 [(.t 16)]]) (.seq (.ops [oM 18 1, oM 0 18]) .ret)))))
theorem ok28 : FnOk Tryz.prog dc true 28 19 [(.tmp 0)] ac28 := ⟨by kernel_rfl, _, _, Tryz.func28, rfl, by kernel_rfl, rfl, by kernel_rfl, by kernel_rfl⟩
def ac29_b0 : AC := (.seq (.seq (.ops [oM 11 5, oM 12 0, oN 13 12, oB 14 .lss (.t 11) (.t 13)]) (.cond (.t 14) .skip (.exit 0))) (.seq (.block 1 (.seq (.par [(oM 17 0, false), (oM 18 5, false), (oX 19 1 17 18, false), (oL 20 1 19, false), (oM 21 1, false), (oM 22 5, false), (oX 23 1 21 22, false), (oL 24 1 23, false)] [oB 25 .neq (.t 20) (.t 24)]) (.cond (.t 25) (.seq (.ops [oR 4 (.mov (.c (.bool false)))]) .ret) .skip))) (.ops [oM 15 5, oB 16 .add (.t 15) (.c (.int .i64 1)), oM 5 16])))
def ac29 : AC := (.seq (.ops [oR 4 (.mov (.c (.bool false)))]) (.seq (.seq (.ops [oM 6 0, oN 7 6, oM 8 1, oN 9 8, oB 10 .neq (.t 7) (.t 9)]) (.cond (.t 10) (.seq (.ops [oR 4 (.mov (.c (.bool false)))]) .ret) .skip)) (.seq (.seq (.ops [oI 5 0]) (.block 0 (.loop ac29_b0))) (.seq (.ops [oR 4 (.mov (.c (.bool true)))]) .ret))))
theorem ok29 : FnOk Tryz.prog dc false 29 26 [(.tmp 4)] ac29 := ⟨by kernel_rfl, _, _, Tryz.func29, rfl, by kernel_rfl, rfl, by kernel_rfl, by kernel_rfl⟩
def ac30_b0 : AC := (.seq (.seq (.ops [oM 5 3, oM 6 2, oN 7 6, oB 8 .lss (.t 5) (.t 7)]) (.cond (.t 8) .skip (.exit 0))) (.seq (.block 1 (.ops [oM 11 1, oM 12 2, oM 13 3, oX 14 7 12 13, oF 15 0 14, oL 16 1 15, oC 17 67 [(.t 11), (.t 16)], oM 1 17])) (.ops [oM 9 3, oB 10 .add (.t 9) (.c (.int .i64 1)), oM 3 10])))
def ac30 : AC := (.seq (.ops [oR 0 (.mov (.c (.isl [] .nil)))]) (.seq (.ops [oR 1 (.mov (.c (.isl [] .nil)))]) (.seq (.ops [oC 4 64 [], oM 2 4]) (.seq (.seq (.ops [oI 3 0]) (.block 0 (.loop ac30_b0))) (.seq (.ops [oM 18 1, oM 0 18]) .ret)))))
theorem ok30 : FnOk Tryz.prog dc false 30 19 [(.tmp 0)] ac30 := ⟨by kernel_rfl, _, _, Tryz.func30, rfl, by kernel_rfl, rfl, by kernel_rfl, by kernel_rfl⟩
def ac31_b0 : AC := (.seq (.seq (.ops [oM 6 5, oM 7 0, oN 8 7, oB 9 .lss (.t 6) (.t 8)]) (.cond (.t 9) .skip (.exit 0))) (.seq (.block 1 (.seq (.ops [oM 12 0, oM 13 5, oX 14 1 12 13, oL 15 1 14, oM 16 1, oB 17 .eql (.t 15) (.t 16)]) (.cond (.t 17) (.seq (.ops [oR 4 (.mov (.c (.bool true)))]) .ret) .skip))) (.ops [oM 10 5, oB 11 .add (.t 10) (.c (.int .i64 1)), oM 5 11])))
def ac31 : AC := (.seq (.ops [oR 4 (.mov (.c (.bool false)))]) (.seq (.seq (.ops [oI 5 0]) (.block 0 (.loop ac31_b0))) (.seq (.ops [oR 4 (.mov (.c (.bool false)))]) .ret)))
theorem ok31 : FnOk Tryz.prog dc false 31 18 [(.tmp 4)] ac31 := ⟨by kernel_rfl, _, _, Tryz.func31, rfl, by kernel_rfl, rfl, by kernel_rfl, by kernel_rfl⟩
def ac32 : AC := (.seq (.ops [oR 2 (.mov (.c (.isl [] .nil))), oI 3 0]) (.seq (.seq (.ops [oM 5 0, oC 6 58 [(.t 5)], oM 4 6]) (.seq (.ops [oM 7 4, oB 8 .neq (.t 7) (.c (.int .i64 0))]) (.cond (.t 8) (.seq (.ops [oM 9 4, oR 2 (.mov (.c (.isl [] .nil))), oM 3 9]) .ret) .skip))) (.seq (.ops [oM 10 0, oC 11 68 [(.t 10)], oM 2 11, oI 3 0]) .ret)))
theorem ok32 : FnOk Tryz.prog dc false 32 12 [(.tmp 2), (.tmp 3)] ac32 := ⟨by kernel_rfl, _, _, Tryz.func32, rfl, by kernel_rfl, rfl, by kernel_rfl, by kernel_rfl⟩
def ac45 : AC := (.seq (.ops [oR 0 (.mov (.c (.isl [] .nil)))]) (.seq (.ops [oC 1 89 [(.c (.str [97]))], oC 2 89 [(.c (.str [98]))], oC 3 89 [(.c (.str [99]))], oR 4 (.bsl 1 [(.t 2), (.t 3)]), oC 5 88 [(.c (.str [42])), (.t 4)], oR 6 (.bsl 1 [(.t 1), (.t 5)]), oC 7 88 [(.c (.str [43])), (.t 6)], oM 0 7]) .ret))
theorem ok45 : FnOk Tryz.prog dc false 45 8 [(.tmp 0)] ac45 := ⟨by kernel_rfl, _, _, Tryz.func45, rfl, by kernel_rfl, rfl, by kernel_rfl, by kernel_rfl⟩
def ac46_b0 : AC := (.seq (.ops [oB 9 .lss (.t 8) (.t 7)]) (.seq (.cond (.t 9) .skip (.exit 0)) (.seq (.block 1 (.seq (.ops [oX 10 1 6 8, oL 11 1 10, oM 5 11]) (.seq (.ops [oM 12 5, oM 13 3, oB 14 .neq (.t 12) (.t 13)]) (.cond (.t 14) (.seq (.ops [oM 15 5, oM 2 15]) .ret) .skip)))) (.ops [oB 16 .add (.t 8) (.c (.int .i64 1)), oM 8 16]))))
def ac46 : AC := (.seq (.ops [oI 2 0]) (.seq (.ops [oI 3 0]) (.seq (.seq (.ops [oM 6 0, oN 7 6, oI 8 0]) (.block 0 (.loop ac46_b0))) (.seq (.ops [oM 17 3, oM 2 17]) .ret))))
theorem ok46 : FnOk Tryz.prog dc false 46 18 [(.tmp 2)] ac46 := ⟨by kernel_rfl, _, _, Tryz.func46, rfl, by kernel_rfl, rfl, by kernel_rfl, by kernel_rfl⟩
def ac47 : AC := (.seq (.ops [oI 4 0]) (.seq (.seq (.ops [oM 5 0]) (.cond (.t 5) (.seq (.ops [oM 6 1, oM 4 6]) .ret) .skip)) (.seq (.ops [oI 4 0]) .ret)))
theorem ok47 : FnOk Tryz.prog dc false 47 7 [(.tmp 4)] ac47 := ⟨by kernel_rfl, _, _, Tryz.func47, rfl, by kernel_rfl, rfl, by kernel_rfl, by kernel_rfl⟩
def ac48_p0 : List AOp := [oFg 37 4 7 36 false, oLg 38 1 37 36 false, oRg 39 (.len (.t 38)) 36 false, oFg 40 2 8 36 false, oRg 41 (.aidx 2 1 (.t 40) (.c (.int .i64 0))) 36 false, oLg 42 1 41 36 false, oFg 43 2 8 36 false, oRg 44 (.aidx 2 1 (.t 43) (.c (.int .i64 1))) 36 false, oLg 45 1 44 36 false, oCg 46 69 [(.t 39), (.t 42), (.t 45)] 36 false, oRg 47 (.not (.t 46)) 36 false, oR 48 (.pick (.t 36) (.c (.bool true)) (.t 47))]
def ac48_r1a : AC := (.ops [oM 12 55])
def ac48_r1b : AC := (.block 1 (.seq (.seq (.ops [oM 56 12, oL 57 1 9, oB 58 .neq (.t 56) (.t 57), oM 59 58, oLg 60 1 9 59 false, oBg 61 .lss (.t 60) (.c (.int .i64 0)) 59 false, oR 62 (.pick (.t 59) (.c (.bool true)) (.t 61))]) (.cond (.t 62) (.seq (.ops [⟨none, (.d (.store 1 (.t 10) (.c (.bool false)))), none⟩]) (.exit 0)) .skip)) (.ops [oL 63 1 5, oL 64 1 9, oX 65 1 63 64, oL 66 1 65, oB 67 .sub (.t 66) (.c (.int .i64 1)), oS 1 9 67])))
def ac48_j2 : AC := (.seq (.ops [oF 51 4 7, oL 52 1 51, oC 53 91 [(.t 52)]]) (.block 0 (.rf (.t 53) 54 55 ac48_r1a ac48_r1b)))
def ac48_p3 : List AOp := [oFg 74 2 7 73 false, oLg 75 1 74 73 false, oBg 76 .eql (.t 75) (.c (.str [])) 73 false, oR 77 (.pick (.t 73) (.c (.bool true)) (.t 76)), oM 78 77, oFg 79 5 8 78 true, oLg 80 1 79 78 true, oMg 81 80 78 true, oFg 82 1 7 81 false, oLg 83 1 82 81 false, oBg 84 .eql (.t 83) (.c (.int .i64 0)) 81 false, oRg 85 (.pick (.t 81) (.c (.bool true)) (.t 84)) 78 true, oR 86 (.pick (.t 78) (.t 85) (.c (.bool false))), oM 87 86, oFg 88 0 7 87 true, oLg 89 1 88 87 true, oBg 90 .neq (.t 89) (.c (.int .i64 1)) 87 true, oMg 91 90 87 true, oFg 92 2 7 91 false, oLg 93 1 92 91 false, oCg 94 92 [(.t 93)] 91 false, oRg 95 (.pick (.t 91) (.c (.bool true)) (.t 94)) 87 true, oR 96 (.pick (.t 87) (.t 95) (.c (.bool false))), oM 97 96, oMg 98 13 97 true, oRg 99 (.not (.t 98)) 97 true, oMg 100 99 97 true, oFg 101 1 7 100 false, oLg 102 1 101 100 false, oCg 103 69 [(.t 102), (.c (.int .i64 0)), (.c (.int .i64 1))] 100 false, oRg 104 (.pick (.t 100) (.c (.bool true)) (.t 103)) 97 true, oR 105 (.pick (.t 97) (.t 104) (.c (.bool false)))]
def ac48 : AC := (.seq (.ops [⟨(some 5), (.d (.box 1 (.t 2))), none⟩, oI 6 0]) (.seq (.ops [oM 15 0, oM 16 1, oX 17 5 15 16, oA 18 5 17, ⟨(some 7), (.d (.alloc [(.int .i64 0), (.int .i64 0), (.str []), (.isl [] .nil), (.isl [] .nil)])), none⟩, oS 5 7 18]) (.seq (.seq (.ops [oF 19 0 7, oL 20 1 19, oC 21 69 [(.t 20), (.c (.int .i64 0)), (.c (.int .i64 28))], oR 22 (.not (.t 21))]) (.cond (.t 22) (.seq (.ops [oI 6 4]) .ret) .skip)) (.seq (.ops [oA 23 5 7, oC 24 90 [(.t 23)], ⟨(some 8), (.d (.alloc [(.int .i64 0), (.int .i64 0), (.int .i64 0), (.int .i64 0), (.bool false), (.bool false)])), none⟩, oS 6 8 24]) (.seq (.seq (.ops ([oF 25 3 7, oL 26 1 25, oN 27 26, oF 28 0 8, oR 29 (.aidx 2 1 (.t 28) (.c (.int .i64 0))), oL 30 1 29, oF 31 0 8, oR 32 (.aidx 2 1 (.t 31) (.c (.int .i64 1))), oL 33 1 32, oC 34 69 [(.t 27), (.t 30), (.t 33)], oR 35 (.not (.t 34)), oM 36 35] ++ ac48_p0)) (.cond (.t 48) (.seq (.ops [oI 6 6]) .ret) .skip)) (.seq (.ops [oM 49 1, oB 50 .sub (.t 49) (.c (.int .i64 1)), ⟨(some 9), (.d (.alloc [(.int .i64 0)])), none⟩, oS 1 9 50]) (.seq (.ops [⟨(some 10), (.d (.alloc [(.bool false)])), none⟩, ⟨none, (.d (.store 1 (.t 10) (.c (.bool true)))), none⟩]) (.seq ac48_j2 (.seq (.ops [oF 68 0 7, oL 69 1 68, oB 70 .eql (.t 69) (.c (.int .i64 23)), oM 13 70]) (.seq (.ops ([oF 71 4 8, oL 72 1 71, oM 73 72] ++ ac48_p3 ++ [oM 14 105])) (.seq (.par [(oL 106 1 10, false), (oR 107 (.not (.t 106)), false), (oM 108 107, false), (oMg 109 14 108 false, false), (oRg 110 (.not (.t 109)) 108 false, false), (oR 111 (.pick (.t 108) (.c (.bool true)) (.t 110)), false), (oC 112 47 [(.t 111), (.c (.int .i64 5))], false), (oM 113 13, false), (oR 114 (.not (.t 113)), false), (oM 115 114, false), (oFg 116 1 7 115 true, false), (oLg 117 1 116 115 true, false), (oCg 118 69 [(.t 117), (.c (.int .i64 0)), (.c (.int .i64 10000))] 115 true, false), (oRg 119 (.not (.t 118)) 115 true, false), (oR 120 (.pick (.t 115) (.t 119) (.c (.bool false))), false), (oC 121 47 [(.t 120), (.c (.int .i64 3))], false), (oA 122 5 7, false)] [oC 123 93 [(.t 122)], oR 124 (.bsl 1 [(.t 112), (.t 121), (.t 123)]), oC 125 46 [(.t 124)], oM 6 125]) .ret)))))))))))
theorem ok48 : FnOk Tryz.prog dc false 48 126 [(.tmp 6)] ac48 := ⟨by kernel_rfl, _, _, Tryz.func48, rfl, by kernel_rfl, rfl, by kernel_rfl, by kernel_rfl⟩
def ac49 : AC := (.seq (.ops [oI 6 0]) (.seq (.seq (.ops [oM 7 0, oM 8 1, oX 9 5 7 8, oF 10 4 9, oL 11 1 10, oN 12 11, oB 13 .eql (.t 12) (.c (.int .i64 0))]) (.cond (.t 13) (.seq (.ops [oM 14 1, oM 6 14]) .ret) .skip)) (.seq (.ops [oM 15 2, oM 16 0, oM 17 1, oX 18 5 16 17, oF 19 4 18, oL 20 1 19, oR 21 (.idx 1 (.t 20) (.c (.int .i64 0))), oL 22 1 21, oX 23 1 15 22, oL 24 1 23, oM 6 24]) .ret)))
theorem ok49 : FnOk Tryz.prog dc false 49 25 [(.tmp 6)] ac49 := ⟨by kernel_rfl, _, _, Tryz.func49, rfl, by kernel_rfl, rfl, by kernel_rfl, by kernel_rfl⟩
def ac50_b0 : AC := (.seq (.ops [oB 28 .lss (.t 27) (.t 26)]) (.seq (.cond (.t 28) .skip (.exit 2)) (.seq (.block 3 (.seq (.ops [oM 29 27, oX 30 1 25 27, oL 31 1 30, oM 8 29, oM 9 31]) (.ops [oM 32 4, oM 33 9, oM 34 5, oM 35 9, oM 36 6, oM 37 8, oX 38 1 32 33, oS 1 38 36, oX 39 1 34 35, oS 1 39 37]))) (.ops [oB 40 .add (.t 27) (.c (.int .i64 1)), oM 27 40]))))
def ac50_b1 : AC := (.seq (.ops [oB 20 .lss (.t 19) (.t 18)]) (.seq (.cond (.t 20) .skip (.exit 0)) (.seq (.block 1 (.seq (.ops [oM 21 19, oX 22 5 17 19, oA 23 5 22, ⟨(some 7), (.d (.alloc [(.int .i64 0), (.int .i64 0), (.str []), (.isl [] .nil), (.isl [] .nil)])), none⟩, oM 6 21, oS 5 7 23]) (.seq (.ops [oF 24 4 7, oL 25 1 24, oN 26 25, oI 27 0]) (.block 2 (.loop ac50_b0))))) (.ops [oB 41 .add (.t 19) (.c (.int .i64 1)), oM 19 41]))))
def ac50 : AC := (.seq (.ops [oR 2 (.mov (.c (.isl [] .nil))), oR 3 (.mov (.c (.isl [] .nil)))]) (.seq (.par2 [0, 0, 2, 7, 0, 16, 48, 15, 255] [(oR 10 (.bsl 1 [(.c (.int .i64 (-1)))]), false), (oM 11 0, false), (oN 12 11, false), (oC 13 94 [(.t 10), (.t 12)], true), (oM 14 0, false), (oN 15 14, false), (⟨(some 16), (.d (.mksl 1 8 [(.int .i64 0)] (.t 15) (.t 15))), none⟩, true), (oM 4 13, false)] [oM 5 16]) (.seq (.seq (.ops [oM 17 0, oN 18 17, oI 19 0]) (.block 0 (.loop ac50_b1))) (.seq (.ops [oM 42 4, oM 43 5, oM 2 42, oM 3 43]) .ret))))
theorem ok50 : FnOk Tryz.prog dc false 50 44 [(.tmp 2), (.tmp 3)] ac50 := ⟨by kernel_rfl, _, _, Tryz.func50, rfl, by kernel_rfl, rfl, by kernel_rfl, by kernel_rfl⟩
def ac51_b0 : AC := (.seq (.seq (.ops [oM 51 2, oM 52 11, oX 53 1 51 52, oL 54 1 53, oB 55 .neq (.t 54) (.c (.int .i64 (-1)))]) (.cond (.t 55) .skip (.exit 1))) (.seq (.block 2 (.seq (.ops [oM 60 0, oM 61 2, oM 62 11, oX 63 1 61 62, oL 64 1 63, oX 65 5 60 64, oF 66 0 65, oL 67 1 66, oB 68 .eql (.t 67) (.c (.int .i64 19)), oM 69 68, oMg 70 3 69 true, oMg 71 11 69 true, oRg 72 (.idx 1 (.t 70) (.t 71)) 69 true, oLg 73 1 72 69 true, oBg 74 .eql (.t 73) (.c (.int .i64 2)) 69 true, oR 75 (.pick (.t 69) (.t 74) (.c (.bool false)))]) (.cond (.t 75) (.seq (.ops [oR 8 (.mov (.c (.bool false)))]) .ret) .skip))) (.ops [oM 56 2, oM 57 11, oX 58 1 56 57, oL 59 1 58, oM 11 59])))
def ac51 : AC := (.seq (.ops [oR 8 (.mov (.c (.bool false)))]) (.seq (.seq (.ops [oM 12 0, oM 13 1, oX 14 5 12 13, oF 15 0 14, oL 16 1 15]) (.block 0 (.seq (.ops [oB 18 .eql (.t 16) (.c (.int .i64 24)), oM 17 18]) (.cond (.t 17) (.seq (.seq (.ops [oM 19 2, oM 20 1, oX 21 1 19 20, oL 22 1 21, oB 23 .eql (.t 22) (.c (.int .i64 (-1))), oM 24 23, oMg 25 0 24 false, oMg 26 2 24 false, oMg 27 1 24 false, oRg 28 (.idx 1 (.t 26) (.t 27)) 24 false, oLg 29 1 28 24 false, oRg 30 (.idx 5 (.t 25) (.t 29)) 24 false, oFg 31 0 30 24 false, oLg 32 1 31 24 false, oBg 33 .neq (.t 32) (.c (.int .i64 3)) 24 false, oR 34 (.pick (.t 24) (.c (.bool true)) (.t 33))]) (.cond (.t 34) (.seq (.ops [oR 8 (.mov (.c (.bool true)))]) .ret) .skip)) (.seq (.ops [oM 36 0, oM 37 2, oM 38 1, oX 39 1 37 38, oL 40 1 39, oX 41 5 36 40, oF 42 2 41, oL 43 1 42, oC 44 63 [(.t 43)], oM 35 44, oE 45 35 0, oE 46 35 1, ⟨(some 9), (.d (.alloc [(.str []), (.int .i64 0), (.int .i64 0), (.int .i64 0), (.bool false), (.int .i64 0), (.int .i64 0)])), none⟩, oS 7 9 45, oM 10 46]) (.seq (.ops [oM 47 10, oM 8 47]) .ret))) (.seq (.ops [oB 49 .eql (.t 16) (.c (.int .i64 20)), oM 48 49]) (.cond (.t 48) (.seq (.seq (.ops [oM 50 1, oM 11 50]) (.block 1 (.loop ac51_b0))) (.seq (.ops [oR 8 (.mov (.c (.bool true)))]) .ret)) .skip)))))) (.seq (.ops [oR 8 (.mov (.c (.bool false)))]) .ret)))
theorem ok51 : FnOk Tryz.prog dc false 51 76 [(.tmp 8)] ac51 := ⟨by kernel_rfl, _, _, Tryz.func51, rfl, by kernel_rfl, rfl, by kernel_rfl, by kernel_rfl⟩
def ac52 : AC := (.seq (.ops [oR 2 (.mov (.c (.isl [] .nil)))]) (.seq (.ops [oR 3 (.bsl 1 []), oM 4 0, ⟨(some 5), (.d (.app 1 16 (.t 3) (.t 4))), none⟩, oM 2 5]) .ret))
theorem ok52 : FnOk Tryz.prog dc false 52 6 [(.tmp 2)] ac52 := ⟨by kernel_rfl, _, _, Tryz.func52, rfl, by kernel_rfl, rfl, by kernel_rfl, by kernel_rfl⟩
def ac58 : AC := (.seq (.ops [oI 2 0]) (.seq (.ops [oM 6 0, oC 7 14 [(.t 6)], oM 5 7, oE 8 5 0, oE 9 5 1, oM 3 8, oM 4 9]) (.seq (.ops [oM 10 4, oM 2 10]) .ret)))
theorem ok58 : FnOk Tryz.prog dc false 58 11 [(.tmp 2)] ac58 := ⟨by kernel_rfl, _, _, Tryz.func58, rfl, by kernel_rfl, rfl, by kernel_rfl, by kernel_rfl⟩
def ac59_p0 : List AOp := [oFg 11 0 3 10 true, oLg 12 1 11 10 true, oMg 13 1 10 true, oRg 14 (.idx 5 (.t 12) (.t 13)) 10 true, oFg 15 0 14 10 true, oLg 16 1 15 10 true, oCg 17 98 [(.t 16)] 10 true, oR 18 (.pick (.t 10) (.t 17) (.c (.bool false)))]
def ac59 : AC := (.seq (.ops [⟨(some 3), (.d (.box 1 (.t 0))), none⟩, oR 6 (.mov (.c (.str [])))]) (.seq (.seq (.ops ([oM 9 2, oM 10 9] ++ ac59_p0)) (.cond (.t 18) (.seq (.ops [oA 19 1 3, oM 20 1, oC 21 99 [(.t 19), (.t 20)], oM 6 21]) .ret) .skip)) (.seq (.seq (.ops [oA 23 1 3, oM 24 1, oC 25 100 [(.t 23), (.t 24)], oM 22 25, oE 26 22 0, oE 27 22 1, ⟨(some 7), (.d (.alloc [(.str []), (.int .i64 0), (.int .i64 0), (.int .i64 0), (.bool false), (.int .i64 0), (.int .i64 0)])), none⟩, oS 7 7 26, oM 8 27]) (.seq (.ops [oM 28 8]) (.cond (.t 28) (.seq (.ops [oA 29 1 3, oM 30 1, oA 31 7 7, oM 32 2, oC 33 101 [(.t 29), (.t 30), (.t 31), (.t 32)], oM 6 33]) .ret) .skip))) (.seq (.ops [oA 34 1 3, oM 35 1, oC 36 102 [(.t 34), (.t 35)], oM 6 36]) .ret))))
theorem ok59 : FnOk Tryz.prog dc false 59 37 [(.tmp 6)] ac59 := ⟨by kernel_rfl, _, _, Tryz.func59, rfl, by kernel_rfl, rfl, by kernel_rfl, by kernel_rfl⟩
def ac63 : AC := (.seq (.ops [⟨(some 1), (.d (.box 1 (.t 0))), none⟩, ⟨(some 2), (.d (.alloc [(.str []), (.int .i64 0), (.int .i64 0), (.int .i64 0), (.bool false), (.int .i64 0), (.int .i64 0)])), none⟩, oR 3 (.mov (.c (.bool false)))]) (.seq (.ops [oC 6 65 [], oM 4 6]) (.seq (.ops [oM 7 4, oR 8 (.mkfn (.func 112) [] [(.t 1)]), oC 9 111 [(.t 7), (.t 8)], oM 5 9]) (.seq (.seq (.ops [oM 10 5, oB 11 .lss (.t 10) (.c (.int .i64 0))]) (.cond (.t 11) (.seq (.ops [oR 12 (.build [(.str []), (.int .i64 0), (.int .i64 0), (.int .i64 0), (.bool false), (.int .i64 0), (.int .i64 0)] []), oS 7 2 12, oR 3 (.mov (.c (.bool false)))]) .ret) .skip)) (.seq (.ops [oM 13 4, oM 14 5, oX 15 7 13 14, oA 16 7 15, oS 7 2 16, oR 3 (.mov (.c (.bool true)))]) .ret)))))
theorem ok63 : FnOk Tryz.prog dc false 63 17 [(.cell 2 7 true), (.tmp 3)] ac63 := ⟨by kernel_rfl, _, _, Tryz.func63, rfl, by kernel_rfl, rfl, by kernel_rfl, by kernel_rfl⟩
def ac64_b0 : AC := (.seq (.seq (.ops [oM 48 3, oM 49 2, oN 50 49, oB 51 .lss (.t 48) (.t 50)]) (.cond (.t 51) .skip (.exit 0))) (.seq (.block 1 (.seq (.ops [oM 54 2, oM 55 3, oX 56 7 54 55, oA 57 7 56, ⟨(some 4), (.d (.alloc [(.str []), (.int .i64 0), (.int .i64 0), (.int .i64 0), (.bool false), (.int .i64 0), (.int .i64 0)])), none⟩, oS 7 4 57]) (.seq (.ops [oF 58 1 4, oL 59 1 58, oB 60 .eql (.t 59) (.c (.int .i64 1)), oC 61 23 [(.t 60)], oB 62 .add (.c (.int .i64 1)) (.t 61), oF 63 5 4, oS 1 63 62]) (.seq (.ops [oF 64 5 4, oL 65 1 64, oF 66 6 4, oS 1 66 65]) (.seq (.seq (.ops [oF 67 0 4, oL 68 1 67, oB 69 .eql (.t 68) (.c (.str [92, 88]))]) (.cond (.t 69) (.ops [oF 70 6 4, ⟨none, (.d (.store 1 (.t 70) (.c (.int .i64 4)))), none⟩]) .skip)) (.ops [oM 71 1, oA 72 7 4, oR 73 (.bsl 7 [(.t 72)]), ⟨(some 74), (.d (.app 7 64 (.t 71) (.t 73))), none⟩, oM 1 74])))))) (.ops [oM 52 3, oB 53 .add (.t 52) (.c (.int .i64 1)), oM 3 53])))
def ac64 : AC := (.seq (.ops [oR 0 (.mov (.c (.isl [] .nil)))]) (.seq (.ops [oR 1 (.mov (.c (.isl [] .nil)))]) (.seq (.ops [oR 5 (.build [(.str []), (.int .i64 0), (.int .i64 0), (.int .i64 0), (.bool false), (.int .i64 0), (.int .i64 0)] [(0, (1, (.c (.str [126])))), (1, (1, (.c (.int .i64 0)))), (2, (1, (.c (.int .i64 4)))), (3, (1, (.c (.int .i64 4))))]), oR 6 (.build [(.str []), (.int .i64 0), (.int .i64 0), (.int .i64 0), (.bool false), (.int .i64 0), (.int .i64 0)] [(0, (1, (.c (.str [69, 78, 65, 66, 76, 69, 68])))), (1, (1, (.c (.int .i64 0)))), (2, (1, (.c (.int .i64 4)))), (3, (1, (.c (.int .i64 15))))]), oR 7 (.build [(.str []), (.int .i64 0), (.int .i64 0), (.int .i64 0), (.bool false), (.int .i64 0), (.int .i64 0)] [(0, (1, (.c (.str [85, 78, 67, 72, 65, 78, 71, 69, 68])))), (1, (1, (.c (.int .i64 0)))), (2, (1, (.c (.int .i64 4)))), (3, (1, (.c (.int .i64 15))))]), oR 8 (.build [(.str []), (.int .i64 0), (.int .i64 0), (.int .i64 0), (.bool false), (.int .i64 0), (.int .i64 0)] [(0, (1, (.c (.str [91, 93])))), (1, (1, (.c (.int .i64 0)))), (2, (1, (.c (.int .i64 4)))), (3, (1, (.c (.int .i64 15))))]), oR 9 (.build [(.str []), (.int .i64 0), (.int .i64 0), (.int .i64 0), (.bool false), (.int .i64 0), (.int .i64 0)] [(0, (1, (.c (.str [60, 62])))), (1, (1, (.c (.int .i64 0)))), (2, (1, (.c (.int .i64 4)))), (3, (1, (.c (.int .i64 15))))]), oR 10 (.build [(.str []), (.int .i64 0), (.int .i64 0), (.int .i64 0), (.bool false), (.int .i64 0), (.int .i64 0)] [(0, (1, (.c (.str [83, 85, 66, 83, 69, 84])))), (1, (1, (.c (.int .i64 0)))), (2, (1, (.c (.int .i64 8)))), (3, (1, (.c (.int .i64 8))))]), oR 11 (.build [(.str []), (.int .i64 0), (.int .i64 0), (.int .i64 0), (.bool false), (.int .i64 0), (.int .i64 0)] [(0, (1, (.c (.str [85, 78, 73, 79, 78])))), (1, (1, (.c (.int .i64 0)))), (2, (1, (.c (.int .i64 8)))), (3, (1, (.c (.int .i64 8))))]), oR 12 (.build [(.str []), (.int .i64 0), (.int .i64 0), (.int .i64 0), (.bool false), (.int .i64 0), (.int .i64 0)] [(0, (1, (.c (.str [68, 79, 77, 65, 73, 78])))), (1, (1, (.c (.int .i64 0)))), (2, (1, (.c (.int .i64 9)))), (3, (1, (.c (.int .i64 9))))]), oR 13 (.build [(.str []), (.int .i64 0), (.int .i64 0), (.int .i64 0), (.bool false), (.int .i64 0), (.int .i64 0)] [(0, (1, (.c (.str [45, 46])))), (1, (1, (.c (.int .i64 0)))), (2, (1, (.c (.int .i64 12)))), (3, (1, (.c (.int .i64 12))))]), oR 14 (.build [(.str []), (.int .i64 0), (.int .i64 0), (.int .i64 0), (.bool false), (.int .i64 0), (.int .i64 0)] [(0, (1, (.c (.str [61, 62])))), (1, (1, (.c (.int .i64 1)))), (2, (1, (.c (.int .i64 1)))), (3, (1, (.c (.int .i64 1))))]), oR 15 (.build [(.str []), (.int .i64 0), (.int .i64 0), (.int .i64 0), (.bool false), (.int .i64 0), (.int .i64 0)] [(0, (1, (.c (.str [60, 61, 62])))), (1, (1, (.c (.int .i64 1)))), (2, (1, (.c (.int .i64 2)))), (3, (1, (.c (.int .i64 2))))]), oR 16 (.build [(.str []), (.int .i64 0), (.int .i64 0), (.int .i64 0), (.bool false), (.int .i64 0), (.int .i64 0)] [(0, (1, (.c (.str [126, 62])))), (1, (1, (.c (.int .i64 1)))), (2, (1, (.c (.int .i64 2)))), (3, (1, (.c (.int .i64 2))))]), oR 17 (.build [(.str []), (.int .i64 0), (.int .i64 0), (.int .i64 0), (.bool false), (.int .i64 0), (.int .i64 0)] [(0, (1, (.c (.str [47, 92])))), (1, (1, (.c (.int .i64 1)))), (2, (1, (.c (.int .i64 3)))), (3, (1, (.c (.int .i64 3)))), (4, (1, (.c (.bool true))))]), oR 18 (.build [(.str []), (.int .i64 0), (.int .i64 0), (.int .i64 0), (.bool false), (.int .i64 0), (.int .i64 0)] [(0, (1, (.c (.str [92, 47])))), (1, (1, (.c (.int .i64 1)))), (2, (1, (.c (.int .i64 3)))), (3, (1, (.c (.int .i64 3)))), (4, (1, (.c (.bool true))))]), oR 19 (.build [(.str []), (.int .i64 0), (.int .i64 0), (.int .i64 0), (.bool false), (.int .i64 0), (.int .i64 0)] [(0, (1, (.c (.str [61])))), (1, (1, (.c (.int .i64 1)))), (2, (1, (.c (.int .i64 5)))), (3, (1, (.c (.int .i64 5))))]), oR 20 (.build [(.str []), (.int .i64 0), (.int .i64 0), (.int .i64 0), (.bool false), (.int .i64 0), (.int .i64 0)] [(0, (1, (.c (.str [35])))), (1, (1, (.c (.int .i64 1)))), (2, (1, (.c (.int .i64 5)))), (3, (1, (.c (.int .i64 5))))]), oR 21 (.build [(.str []), (.int .i64 0), (.int .i64 0), (.int .i64 0), (.bool false), (.int .i64 0), (.int .i64 0)] [(0, (1, (.c (.str [60])))), (1, (1, (.c (.int .i64 1)))), (2, (1, (.c (.int .i64 5)))), (3, (1, (.c (.int .i64 5))))]), oR 22 (.build [(.str []), (.int .i64 0), (.int .i64 0), (.int .i64 0), (.bool false), (.int .i64 0), (.int .i64 0)] [(0, (1, (.c (.str [60, 61])))), (1, (1, (.c (.int .i64 1)))), (2, (1, (.c (.int .i64 5)))), (3, (1, (.c (.int .i64 5))))]), oR 23 (.build [(.str []), (.int .i64 0), (.int .i64 0), (.int .i64 0), (.bool false), (.int .i64 0), (.int .i64 0)] [(0, (1, (.c (.str [62])))), (1, (1, (.c (.int .i64 1)))), (2, (1, (.c (.int .i64 5)))), (3, (1, (.c (.int .i64 5))))]), oR 24 (.build [(.str []), (.int .i64 0), (.int .i64 0), (.int .i64 0), (.bool false), (.int .i64 0), (.int .i64 0)] [(0, (1, (.c (.str [62, 61])))), (1, (1, (.c (.int .i64 1)))), (2, (1, (.c (.int .i64 5)))), (3, (1, (.c (.int .i64 5))))]), oR 25 (.build [(.str []), (.int .i64 0), (.int .i64 0), (.int .i64 0), (.bool false), (.int .i64 0), (.int .i64 0)] [(0, (1, (.c (.str [92, 105, 110])))), (1, (1, (.c (.int .i64 1)))), (2, (1, (.c (.int .i64 5)))), (3, (1, (.c (.int .i64 5))))]), oR 26 (.build [(.str []), (.int .i64 0), (.int .i64 0), (.int .i64 0), (.bool false), (.int .i64 0), (.int .i64 0)] [(0, (1, (.c (.str [92, 110, 111, 116, 105, 110])))), (1, (1, (.c (.int .i64 1)))), (2, (1, (.c (.int .i64 5)))), (3, (1, (.c (.int .i64 5))))]), oR 27 (.build [(.str []), (.int .i64 0), (.int .i64 0), (.int .i64 0), (.bool false), (.int .i64 0), (.int .i64 0)] [(0, (1, (.c (.str [92, 115, 117, 98, 115, 101, 116, 101, 113])))), (1, (1, (.c (.int .i64 1)))), (2, (1, (.c (.int .i64 5)))), (3, (1, (.c (.int .i64 5))))]), oR 28 (.build [(.str []), (.int .i64 0), (.int .i64 0), (.int .i64 0), (.bool false), (.int .i64 0), (.int .i64 0)] [(0, (1, (.c (.str [92, 115, 113, 115, 117, 98, 115, 101, 116, 101, 113])))), (1, (1, (.c (.int .i64 1)))), (2, (1, (.c (.int .i64 5)))), (3, (1, (.c (.int .i64 5))))]), oR 29 (.build [(.str []), (.int .i64 0), (.int .i64 0), (.int .i64 0), (.bool false), (.int .i64 0), (.int .i64 0)] [(0, (1, (.c (.str [64, 64])))), (1, (1, (.c (.int .i64 1)))), (2, (1, (.c (.int .i64 6)))), (3, (1, (.c (.int .i64 6)))), (4, (1, (.c (.bool true))))]), oR 30 (.build [(.str []), (.int .i64 0), (.int .i64 0), (.int .i64 0), (.bool false), (.int .i64 0), (.int .i64 0)] [(0, (1, (.c (.str [58, 62])))), (1, (1, (.c (.int .i64 1)))), (2, (1, (.c (.int .i64 7)))), (3, (1, (.c (.int .i64 7))))]), oR 31 (.build [(.str []), (.int .i64 0), (.int .i64 0), (.int .i64 0), (.bool false), (.int .i64 0), (.int .i64 0)] [(0, (1, (.c (.str [92, 99, 100, 111, 116])))), (1, (1, (.c (.int .i64 1)))), (2, (1, (.c (.int .i64 5)))), (3, (1, (.c (.int .i64 14)))), (4, (1, (.c (.bool true))))]), oR 32 (.build [(.str []), (.int .i64 0), (.int .i64 0), (.int .i64 0), (.bool false), (.int .i64 0), (.int .i64 0)] [(0, (1, (.c (.str [92, 99, 117, 112])))), (1, (1, (.c (.int .i64 1)))), (2, (1, (.c (.int .i64 8)))), (3, (1, (.c (.int .i64 8)))), (4, (1, (.c (.bool true))))]), oR 33 (.build [(.str []), (.int .i64 0), (.int .i64 0), (.int .i64 0), (.bool false), (.int .i64 0), (.int .i64 0)] [(0, (1, (.c (.str [92, 99, 97, 112])))), (1, (1, (.c (.int .i64 1)))), (2, (1, (.c (.int .i64 8)))), (3, (1, (.c (.int .i64 8)))), (4, (1, (.c (.bool true))))]), oR 34 (.build [(.str []), (.int .i64 0), (.int .i64 0), (.int .i64 0), (.bool false), (.int .i64 0), (.int .i64 0)] [(0, (1, (.c (.str [92])))), (1, (1, (.c (.int .i64 1)))), (2, (1, (.c (.int .i64 8)))), (3, (1, (.c (.int .i64 8))))]), oR 35 (.build [(.str []), (.int .i64 0), (.int .i64 0), (.int .i64 0), (.bool false), (.int .i64 0), (.int .i64 0)] [(0, (1, (.c (.str [46, 46])))), (1, (1, (.c (.int .i64 1)))), (2, (1, (.c (.int .i64 9)))), (3, (1, (.c (.int .i64 9))))]), oR 36 (.build [(.str []), (.int .i64 0), (.int .i64 0), (.int .i64 0), (.bool false), (.int .i64 0), (.int .i64 0)] [(0, (1, (.c (.str [43])))), (1, (1, (.c (.int .i64 1)))), (2, (1, (.c (.int .i64 10)))), (3, (1, (.c (.int .i64 10)))), (4, (1, (.c (.bool true))))]), oR 37 (.build [(.str []), (.int .i64 0), (.int .i64 0), (.int .i64 0), (.bool false), (.int .i64 0), (.int .i64 0)] [(0, (1, (.c (.str [40, 43, 41])))), (1, (1, (.c (.int .i64 1)))), (2, (1, (.c (.int .i64 10)))), (3, (1, (.c (.int .i64 10)))), (4, (1, (.c (.bool true))))]), oR 38 (.build [(.str []), (.int .i64 0), (.int .i64 0), (.int .i64 0), (.bool false), (.int .i64 0), (.int .i64 0)] [(0, (1, (.c (.str [37])))), (1, (1, (.c (.int .i64 1)))), (2, (1, (.c (.int .i64 10)))), (3, (1, (.c (.int .i64 11))))]), oR 39 (.build [(.str []), (.int .i64 0), (.int .i64 0), (.int .i64 0), (.bool false), (.int .i64 0), (.int .i64 0)] [(0, (1, (.c (.str [92, 88])))), (1, (1, (.c (.int .i64 1)))), (2, (1, (.c (.int .i64 10)))), (3, (1, (.c (.int .i64 13))))]), oR 40 (.build [(.str []), (.int .i64 0), (.int .i64 0), (.int .i64 0), (.bool false), (.int .i64 0), (.int .i64 0)] [(0, (1, (.c (.str [45])))), (1, (1, (.c (.int .i64 1)))), (2, (1, (.c (.int .i64 11)))), (3, (1, (.c (.int .i64 11)))), (4, (1, (.c (.bool true))))]), oR 41 (.build [(.str []), (.int .i64 0), (.int .i64 0), (.int .i64 0), (.bool false), (.int .i64 0), (.int .i64 0)] [(0, (1, (.c (.str [40, 45, 41])))), (1, (1, (.c (.int .i64 1)))), (2, (1, (.c (.int .i64 11)))), (3, (1, (.c (.int .i64 11)))), (4, (1, (.c (.bool true))))]), oR 42 (.build [(.str []), (.int .i64 0), (.int .i64 0), (.int .i64 0), (.bool false), (.int .i64 0), (.int .i64 0)] [(0, (1, (.c (.str [42])))), (1, (1, (.c (.int .i64 1)))), (2, (1, (.c (.int .i64 13)))), (3, (1, (.c (.int .i64 13)))), (4, (1, (.c (.bool true))))]), oR 43 (.build [(.str []), (.int .i64 0), (.int .i64 0), (.int .i64 0), (.bool false), (.int .i64 0), (.int .i64 0)] [(0, (1, (.c (.str [92, 100, 105, 118])))), (1, (1, (.c (.int .i64 1)))), (2, (1, (.c (.int .i64 13)))), (3, (1, (.c (.int .i64 13))))]), oR 44 (.build [(.str []), (.int .i64 0), (.int .i64 0), (.int .i64 0), (.bool false), (.int .i64 0), (.int .i64 0)] [(0, (1, (.c (.str [92, 111])))), (1, (1, (.c (.int .i64 1)))), (2, (1, (.c (.int .i64 13)))), (3, (1, (.c (.int .i64 13)))), (4, (1, (.c (.bool true))))]), oR 45 (.build [(.str []), (.int .i64 0), (.int .i64 0), (.int .i64 0), (.bool false), (.int .i64 0), (.int .i64 0)] [(0, (1, (.c (.str [94])))), (1, (1, (.c (.int .i64 1)))), (2, (1, (.c (.int .i64 14)))), (3, (1, (.c (.int .i64 14))))]), oR 46 (.build [(.str []), (.int .i64 0), (.int .i64 0), (.int .i64 0), (.bool false), (.int .i64 0), (.int .i64 0)] [(0, (1, (.c (.str [39])))), (1, (1, (.c (.int .i64 2)))), (2, (1, (.c (.int .i64 15)))), (3, (1, (.c (.int .i64 15))))]), oR 47 (.bsl 7 [(.t 5), (.t 6), (.t 7), (.t 8), (.t 9), (.t 10), (.t 11), (.t 12), (.t 13), (.t 14), (.t 15), (.t 16), (.t 17), (.t 18), (.t 19), (.t 20), (.t 21), (.t 22), (.t 23), (.t 24), (.t 25), (.t 26), (.t 27), (.t 28), (.t 29), (.t 30), (.t 31), (.t 32), (.t 33), (.t 34), (.t 35), (.t 36), (.t 37), (.t 38), (.t 39), (.t 40), (.t 41), (.t 42), (.t 43), (.t 44), (.t 45), (.t 46)]), oM 2 47]) (.seq (.seq (.ops [oI 3 0]) (.block 0 (.loop ac64_b0))) (.seq (.ops [oM 75 1, oM 0 75]) .ret)))))
theorem ok64 : FnOk Tryz.prog dc false 64 76 [(.tmp 0)] ac64 := ⟨by kernel_rfl, _, _, Tryz.func64, rfl, by kernel_rfl, rfl, by kernel_rfl, by kernel_rfl⟩
def ac65_b0 : AC := (.seq (.ops [oB 81 .lss (.t 80) (.t 79)]) (.seq (.cond (.t 81) .skip (.exit 0)) (.seq (.block 1 (.seq (.ops [oM 82 80, oM 4 82]) (.seq (.ops [oM 83 3, oM 84 4, oX 85 7 83 84, oF 86 0 85, oL 87 1 86, oB 88 .eql (.t 87) (.c (.str [92, 88]))]) (.cond (.t 88) (.ops [oM 89 3, oM 90 4, oX 91 7 89 90, oF 92 6 91, ⟨none, (.d (.store 1 (.t 92) (.c (.int .i64 4)))), none⟩]) .skip)))) (.ops [oB 93 .add (.t 80) (.c (.int .i64 1)), oM 80 93]))))
def ac65 : AC := (.seq (.ops [oR 0 (.mov (.c (.isl [] .nil)))]) (.seq (.ops [oR 1 (.mov (.c (.fn (.func 113) [] [])))]) (.seq (.ops [oR 2 (.mov (.c (.fn (.func 114) [] [])))]) (.seq (.ops [oM 5 1, oR 6 (.bsl 1 [(.c (.str [126]))]), ⟨(some 7), (.call (.t 5) [(.c (.int .i64 4)), (.c (.int .i64 4)), (.t 6)]), none⟩, oM 8 1, oR 9 (.bsl 1 [(.c (.str [69, 78, 65, 66, 76, 69, 68])), (.c (.str [85, 78, 67, 72, 65, 78, 71, 69, 68])), (.c (.str [91, 93])), (.c (.str [60, 62]))]), ⟨(some 10), (.call (.t 8) [(.c (.int .i64 4)), (.c (.int .i64 15)), (.t 9)]), none⟩, oM 11 1, oR 12 (.bsl 1 [(.c (.str [83, 85, 66, 83, 69, 84])), (.c (.str [85, 78, 73, 79, 78]))]), ⟨(some 13), (.call (.t 11) [(.c (.int .i64 8)), (.c (.int .i64 8)), (.t 12)]), none⟩, oM 14 1, oR 15 (.bsl 1 [(.c (.str [68, 79, 77, 65, 73, 78]))]), ⟨(some 16), (.call (.t 14) [(.c (.int .i64 9)), (.c (.int .i64 9)), (.t 15)]), none⟩, oM 17 1, oR 18 (.bsl 1 [(.c (.str [45, 46]))]), ⟨(some 19), (.call (.t 17) [(.c (.int .i64 12)), (.c (.int .i64 12)), (.t 18)]), none⟩, oM 20 2, oR 21 (.bsl 1 [(.c (.str [61, 62]))]), ⟨(some 22), (.call (.t 20) [(.c (.int .i64 1)), (.c (.int .i64 1)), (.c (.bool false)), (.t 21)]), none⟩, oM 23 2, oR 24 (.bsl 1 [(.c (.str [60, 61, 62])), (.c (.str [126, 62]))]), ⟨(some 25), (.call (.t 23) [(.c (.int .i64 2)), (.c (.int .i64 2)), (.c (.bool false)), (.t 24)]), none⟩, oM 26 2, oR 27 (.bsl 1 [(.c (.str [47, 92])), (.c (.str [92, 47]))]), ⟨(some 28), (.call (.t 26) [(.c (.int .i64 3)), (.c (.int .i64 3)), (.c (.bool true)), (.t 27)]), none⟩, oM 29 2, oR 30 (.bsl 1 [(.c (.str [61])), (.c (.str [35])), (.c (.str [60])), (.c (.str [60, 61])), (.c (.str [62])), (.c (.str [62, 61])), (.c (.str [92, 105, 110])), (.c (.str [92, 110, 111, 116, 105, 110])), (.c (.str [92, 115, 117, 98, 115, 101, 116, 101, 113])), (.c (.str [92, 115, 113, 115, 117, 98, 115, 101, 116, 101, 113]))]), ⟨(some 31), (.call (.t 29) [(.c (.int .i64 5)), (.c (.int .i64 5)), (.c (.bool false)), (.t 30)]), none⟩, oM 32 2, oR 33 (.bsl 1 [(.c (.str [64, 64]))]), ⟨(some 34), (.call (.t 32) [(.c (.int .i64 6)), (.c (.int .i64 6)), (.c (.bool true)), (.t 33)]), none⟩, oM 35 2, oR 36 (.bsl 1 [(.c (.str [58, 62]))]), ⟨(some 37), (.call (.t 35) [(.c (.int .i64 7)), (.c (.int .i64 7)), (.c (.bool false)), (.t 36)]), none⟩, oM 38 2, oR 39 (.bsl 1 [(.c (.str [92, 99, 100, 111, 116]))]), ⟨(some 40), (.call (.t 38) [(.c (.int .i64 5)), (.c (.int .i64 14)), (.c (.bool true)), (.t 39)]), none⟩, oM 41 2, oR 42 (.bsl 1 [(.c (.str [92, 99, 117, 112])), (.c (.str [92, 99, 97, 112]))]), ⟨(some 43), (.call (.t 41) [(.c (.int .i64 8)), (.c (.int .i64 8)), (.c (.bool true)), (.t 42)]), none⟩, oM 44 2, oR 45 (.bsl 1 [(.c (.str [92]))]), ⟨(some 46), (.call (.t 44) [(.c (.int .i64 8)), (.c (.int .i64 8)), (.c (.bool false)), (.t 45)]), none⟩, oM 47 2, oR 48 (.bsl 1 [(.c (.str [46, 46]))]), ⟨(some 49), (.call (.t 47) [(.c (.int .i64 9)), (.c (.int .i64 9)), (.c (.bool false)), (.t 48)]), none⟩, oM 50 2, oR 51 (.bsl 1 [(.c (.str [43])), (.c (.str [40, 43, 41]))]), ⟨(some 52), (.call (.t 50) [(.c (.int .i64 10)), (.c (.int .i64 10)), (.c (.bool true)), (.t 51)]), none⟩, oM 53 2, oR 54 (.bsl 1 [(.c (.str [37]))]), ⟨(some 55), (.call (.t 53) [(.c (.int .i64 10)), (.c (.int .i64 11)), (.c (.bool false)), (.t 54)]), none⟩, oM 56 2, oR 57 (.bsl 1 [(.c (.str [92, 88]))]), ⟨(some 58), (.call (.t 56) [(.c (.int .i64 10)), (.c (.int .i64 13)), (.c (.bool false)), (.t 57)]), none⟩, oM 59 2, oR 60 (.bsl 1 [(.c (.str [45])), (.c (.str [40, 45, 41]))]), ⟨(some 61), (.call (.t 59) [(.c (.int .i64 11)), (.c (.int .i64 11)), (.c (.bool true)), (.t 60)]), none⟩, oM 62 2, oR 63 (.bsl 1 [(.c (.str [42]))]), ⟨(some 64), (.call (.t 62) [(.c (.int .i64 13)), (.c (.int .i64 13)), (.c (.bool true)), (.t 63)]), none⟩, oM 65 2, oR 66 (.bsl 1 [(.c (.str [92, 100, 105, 118]))]), ⟨(some 67), (.call (.t 65) [(.c (.int .i64 13)), (.c (.int .i64 13)), (.c (.bool false)), (.t 66)]), none⟩, oM 68 2, oR 69 (.bsl 1 [(.c (.str [92, 111]))]), ⟨(some 70), (.call (.t 68) [(.c (.int .i64 13)), (.c (.int .i64 13)), (.c (.bool true)), (.t 69)]), none⟩, oM 71 2, oR 72 (.bsl 1 [(.c (.str [94]))]), ⟨(some 73), (.call (.t 71) [(.c (.int .i64 14)), (.c (.int .i64 14)), (.c (.bool false)), (.t 72)]), none⟩, oR 74 (.build [(.str []), (.int .i64 0), (.int .i64 0), (.int .i64 0), (.bool false), (.int .i64 0), (.int .i64 0)] [(0, (1, (.c (.str [39])))), (1, (1, (.c (.int .i64 2)))), (2, (1, (.c (.int .i64 15)))), (3, (1, (.c (.int .i64 15)))), (5, (1, (.c (.int .i64 1)))), (6, (1, (.c (.int .i64 1))))]), oR 75 (.bsl 7 [(.t 74)]), oR 76 (.bsl 1 [(.t 7), (.t 10), (.t 13), (.t 16), (.t 19), (.t 22), (.t 25), (.t 28), (.t 31), (.t 34), (.t 37), (.t 40), (.t 43), (.t 46), (.t 49), (.t 52), (.t 55), (.t 58), (.t 61), (.t 64), (.t 67), (.t 70), (.t 73), (.t 75)]), oC 77 115 [(.t 76)], oM 3 77]) (.seq (.seq (.ops [oM 78 3, oN 79 78, oI 80 0]) (.block 0 (.loop ac65_b0))) (.seq (.ops [oM 94 3, oM 0 94]) .ret))))))
theorem ok65 : FnOk Tryz.prog dc false 65 95 [(.tmp 0)] ac65 := ⟨by kernel_rfl, _, _, Tryz.func65, rfl, by kernel_rfl, rfl, by kernel_rfl, by kernel_rfl⟩
def ac67_b0 : AC := (.seq (.seq (.ops [oM 7 5, oM 8 0, oN 9 8, oB 10 .lss (.t 7) (.t 9), oM 11 10, oMg 12 0 11 true, oMg 13 5 11 true, oRg 14 (.idx 1 (.t 12) (.t 13)) 11 true, oLg 15 1 14 11 true, oMg 16 1 11 true, oBg 17 .lss (.t 15) (.t 16) 11 true, oR 18 (.pick (.t 11) (.t 17) (.c (.bool false)))]) (.cond (.t 18) .skip (.exit 0))) (.block 1 (.ops [oM 19 5, oB 20 .add (.t 19) (.c (.int .i64 1)), oM 5 20])))
def ac67 : AC := (.seq (.ops [oR 4 (.mov (.c (.isl [] .nil)))]) (.seq (.ops [oI 5 0]) (.seq (.block 0 (.loop ac67_b0)) (.seq (.seq (.ops [oM 21 5, oM 22 0, oN 23 22, oB 24 .lss (.t 21) (.t 23), oM 25 24, oMg 26 0 25 true, oMg 27 5 25 true, oRg 28 (.idx 1 (.t 26) (.t 27)) 25 true, oLg 29 1 28 25 true, oMg 30 1 25 true, oBg 31 .eql (.t 29) (.t 30) 25 true, oR 32 (.pick (.t 25) (.t 31) (.c (.bool false)))]) (.cond (.t 32) (.seq (.ops [oM 33 0, oM 4 33]) .ret) .skip)) (.seq (.ops [oM 34 0, oM 35 5, oR 36 (.slc 1 (.t 34) none (some (.t 35)) none), oC 37 52 [(.t 36)], oM 38 1, oR 39 (.bsl 1 [(.t 38)]), ⟨(some 40), (.d (.app 1 16 (.t 37) (.t 39))), none⟩, oM 6 40]) (.seq (.ops [oM 41 6, oM 42 0, oM 43 5, oR 44 (.slc 1 (.t 42) (some (.t 43)) none none), ⟨(some 45), (.d (.app 1 16 (.t 41) (.t 44))), none⟩, oM 4 45]) .ret))))))
theorem ok67 : FnOk Tryz.prog dc false 67 46 [(.tmp 4)] ac67 := ⟨by kernel_rfl, _, _, Tryz.func67, rfl, by kernel_rfl, rfl, by kernel_rfl, by kernel_rfl⟩
def ac68 : AC := (.seq (.ops [⟨(some 1), (.d (.box 1 (.t 0))), none⟩, oR 2 (.mov (.c (.isl [] .nil)))]) (.seq (.ops [⟨(some 3), (.d (.alloc [(.isl [] .nil)])), none⟩]) (.seq (.ops [oL 4 1 1, oL 5 1 1, oN 6 5, oB 7 .sub (.t 6) (.c (.int .i64 1)), oR 8 (.mkfn (.func 118) [] [(.t 1), (.t 3)]), oC 9 70 [(.t 4), (.t 7), (.c (.isl [] .nil)), (.t 8)]]) (.seq (.ops [oL 10 1 3, oC 11 66 [(.t 10)]]) (.seq (.ops [oL 12 1 3, oC 13 119 [(.t 12)], oM 2 13]) .ret)))))
theorem ok68 : FnOk Tryz.prog dc false 68 14 [(.tmp 2)] ac68 := ⟨by kernel_rfl, _, _, Tryz.func68, rfl, by kernel_rfl, rfl, by kernel_rfl, by kernel_rfl⟩
def ac69 : AC := (.seq (.ops [oR 6 (.mov (.c (.bool false)))]) (.seq (.ops [oM 7 1, oM 8 0, oB 9 .leq (.t 7) (.t 8), oM 10 9, oMg 11 0 10 true, oMg 12 2 10 true, oBg 13 .leq (.t 11) (.t 12) 10 true, oR 14 (.pick (.t 10) (.t 13) (.c (.bool false))), oM 6 14]) .ret))
theorem ok69 : FnOk Tryz.prog dc false 69 15 [(.tmp 6)] ac69 := ⟨by kernel_rfl, _, _, Tryz.func69, rfl, by kernel_rfl, rfl, by kernel_rfl, by kernel_rfl⟩
def ac70_b0 : AC := (.seq (.ops [oB 21 .lss (.t 20) (.t 19)]) (.seq (.cond (.t 21) .skip (.exit 0)) (.seq (.block 1 (.seq (.ops [oM 22 20, oX 23 1 18 20, oL 24 1 23, oM 8 22, oM 9 24]) (.par [(oM 25 0, false), (oM 26 9, false), (oM 27 2, false), (oC 28 120 [(.t 27)], false), (oM 29 0, false), (oM 30 1, false), (oX 31 5 29 30, false), (oA 32 5 31, false), (oM 33 8, false), (oC 34 121 [(.t 32), (.t 33)], false), (⟨(some 35), (.d (.app 1 16 (.t 28) (.t 34))), none⟩, true), (oM 36 3, false)] [oC 37 70 [(.t 25), (.t 26), (.t 35), (.t 36)]]))) (.ops [oB 38 .add (.t 20) (.c (.int .i64 1)), oM 20 38]))))
def ac70 : AC := (.seq (.ops [oM 10 3, oM 11 1, oM 12 2, ⟨(some 13), (.call (.t 10) [(.t 11), (.t 12)]), none⟩]) (.seq (.ops [oM 14 0, oM 15 1, oX 16 5 14 15, oF 17 4 16, oL 18 1 17, oN 19 18, oI 20 0]) (.block 0 (.loop ac70_b0))))
theorem ok70 : FnOk Tryz.prog dc false 70 39 [] ac70 := ⟨by kernel_rfl, _, _, Tryz.func70, rfl, by kernel_rfl, rfl, by kernel_rfl, by kernel_rfl⟩
def ac77_p0 : List AOp := [oMg 11 0 10 false, oCg 12 125 [(.t 11), (.c (.str [87, 70, 95]))] 10 false, oR 13 (.pick (.t 10) (.c (.bool true)) (.t 12)), oM 14 13, oMg 15 0 14 false, oCg 16 125 [(.t 15), (.c (.str [83, 70, 95]))] 14 false, oR 17 (.pick (.t 14) (.c (.bool true)) (.t 16)), oM 18 17, oCg 19 126 [] 18 false, oMg 20 0 18 false, oCg 21 81 [(.t 19), (.t 20)] 18 false, oR 22 (.pick (.t 18) (.c (.bool true)) (.t 21))]
def ac77_p1 : List AOp := [oMg 35 5 34 false, oRg 36 (.conv .i64 (.t 35)) 34 false, oCg 37 69 [(.t 36), (.c (.int .i64 65)), (.c (.int .i64 90))] 34 false, oR 38 (.pick (.t 34) (.c (.bool true)) (.t 37))]
def ac77_b0 : AC := (.seq (.ops [oB 27 .lss (.t 26) (.t 25)]) (.seq (.cond (.t 27) .skip (.exit 0)) (.seq (.block 1 (.seq (.ops [oX 28 1 24 26, oL 29 1 28, oM 5 29]) (.block 2 (.seq (.ops ([oM 31 5, oR 32 (.conv .i64 (.t 31)), oC 33 69 [(.t 32), (.c (.int .i64 97)), (.c (.int .i64 122))], oM 34 33] ++ ac77_p1 ++ [oM 30 38])) (.cond (.t 30) (.ops [oM 39 3, oB 40 .add (.t 39) (.c (.int .i64 1)), oM 3 40]) (.seq (.ops [oM 42 5, oR 43 (.conv .i64 (.t 42)), oC 44 69 [(.t 43), (.c (.int .i64 48)), (.c (.int .i64 57))], oR 45 (.not (.t 44)), oM 46 45, oMg 47 5 46 true, oBg 48 .neq (.t 47) (.c (.int .u8 95)) 46 true, oR 49 (.pick (.t 46) (.t 48) (.c (.bool false))), oM 41 49]) (.cond (.t 41) (.seq (.ops [oR 2 (.mov (.c (.bool false)))]) .ret) .skip))))))) (.ops [oB 50 .add (.t 26) (.c (.int .i64 1)), oM 26 50]))))
def ac77 : AC := (.seq (.ops [oR 2 (.mov (.c (.bool false)))]) (.seq (.seq (.ops ([oM 6 0, oR 7 (.slen (.t 6)), oC 8 69 [(.t 7), (.c (.int .i64 1)), (.c (.int .i64 24))], oR 9 (.not (.t 8)), oM 10 9] ++ ac77_p0)) (.cond (.t 22) (.seq (.ops [oR 2 (.mov (.c (.bool false)))]) .ret) .skip)) (.seq (.ops [oI 3 0]) (.seq (.seq (.ops [oM 23 0, ⟨(some 24), (.n (.tob (.t 23))), none⟩, oN 25 24, oI 26 0]) (.block 0 (.loop ac77_b0))) (.seq (.ops [oM 51 3, oB 52 .gtr (.t 51) (.c (.int .i64 0)), oM 2 52]) .ret)))))
theorem ok77 : FnOk Tryz.prog dc false 77 53 [(.tmp 2)] ac77 := ⟨by kernel_rfl, _, _, Tryz.func77, rfl, by kernel_rfl, rfl, by kernel_rfl, by kernel_rfl⟩
def ac80 : AC := (.seq (.ops [⟨(some 1), (.d (.box 5 (.t 0))), none⟩, oR 2 (.mov (.c (.bool false)))]) (.seq (.ops [oF 6 2 1, oL 7 1 6, oC 8 63 [(.t 7)], oM 5 8, oE 9 5 0, oE 10 5 1, ⟨(some 3), (.d (.alloc [(.str []), (.int .i64 0), (.int .i64 0), (.int .i64 0), (.bool false), (.int .i64 0), (.int .i64 0)])), none⟩, oS 7 3 9, oM 4 10]) (.seq (.ops [oF 11 0 1, oL 12 1 11, oB 13 .eql (.t 12) (.c (.int .i64 2)), oM 14 13, oFg 15 2 1 14 true, oLg 16 1 15 14 true, oCg 17 129 [(.t 16)] 14 true, oRg 18 (.not (.t 17)) 14 true, oR 19 (.pick (.t 14) (.t 18) (.c (.bool false))), oM 20 19, oFg 21 0 1 20 false, oLg 22 1 21 20 false, oBg 23 .eql (.t 22) (.c (.int .i64 3)) 20 false, oMg 24 23 20 false, oMg 25 4 24 true, oRg 26 (.not (.t 25)) 24 true, oRg 27 (.pick (.t 24) (.t 26) (.c (.bool false))) 20 false, oR 28 (.pick (.t 20) (.c (.bool true)) (.t 27)), oM 2 28]) .ret)))
theorem ok80 : FnOk Tryz.prog dc false 80 29 [(.tmp 2)] ac80 := ⟨by kernel_rfl, _, _, Tryz.func80, rfl, by kernel_rfl, rfl, by kernel_rfl, by kernel_rfl⟩
def ac81 : AC := (.seq (.ops [oR 4 (.mov (.c (.bool false)))]) (.seq (.ops [oM 5 0, oM 6 1, oC 7 130 [(.t 5), (.t 6)], oB 8 .geq (.t 7) (.c (.int .i64 0)), oM 4 8]) .ret))
theorem ok81 : FnOk Tryz.prog dc false 81 9 [(.tmp 4)] ac81 := ⟨by kernel_rfl, _, _, Tryz.func81, rfl, by kernel_rfl, rfl, by kernel_rfl, by kernel_rfl⟩
def ac84_b0 : AC := (.seq (.seq (.ops [oM 47 12, oF 48 4 10, oL 49 1 48, oN 50 49, oB 51 .lss (.t 47) (.t 50)]) (.cond (.t 51) .skip (.exit 4))) (.seq (.block 5 (.ops [oM 54 11, oF 55 4 10, oL 56 1 55, oM 57 12, oX 58 1 56 57, oL 59 1 58, oM 60 8, oB 61 .add (.t 59) (.t 60), oR 62 (.bsl 1 [(.t 61)]), ⟨(some 63), (.d (.app 1 8 (.t 54) (.t 62))), none⟩, oM 11 63])) (.ops [oM 52 12, oB 53 .add (.t 52) (.c (.int .i64 1)), oM 12 53])))
def ac84_b1 : AC := (.seq (.seq (.ops [oM 27 9, oM 28 1, oM 29 7, oX 30 1 28 29, oL 31 1 30, oN 32 31, oB 33 .lss (.t 27) (.t 32)]) (.cond (.t 33) .skip (.exit 2))) (.seq (.block 3 (.seq (.ops [oM 36 1, oM 37 7, oX 38 1 36 37, oL 39 1 38, oM 40 9, oX 41 5 39 40, oA 42 5 41, ⟨(some 10), (.d (.alloc [(.int .i64 0), (.int .i64 0), (.str []), (.isl [] .nil), (.isl [] .nil)])), none⟩, oS 5 10 42]) (.seq (.ops [oF 43 3 10, oL 44 1 43, oC 45 52 [(.t 44)], oF 46 3 10, oS 1 46 45]) (.seq (.ops [oR 11 (.mov (.c (.isl [] .nil)))]) (.seq (.seq (.ops [oI 12 0]) (.block 4 (.loop ac84_b0))) (.seq (.ops [oM 64 11, oF 65 4 10, oS 1 65 64]) (.ops [oM 66 5, oA 67 5 10, oR 68 (.bsl 5 [(.t 67)]), ⟨(some 69), (.d (.app 5 80 (.t 66) (.t 68))), none⟩, oM 5 69]))))))) (.ops [oM 34 9, oB 35 .add (.t 34) (.c (.int .i64 1)), oM 9 35])))
def ac84_b2 : AC := (.seq (.seq (.ops [oM 19 7, oM 20 1, oN 21 20, oB 22 .lss (.t 19) (.t 21)]) (.cond (.t 22) .skip (.exit 0))) (.seq (.block 1 (.seq (.ops [oM 25 5, oN 26 25, oM 8 26]) (.seq (.seq (.ops [oI 9 0]) (.block 2 (.loop ac84_b1))) (.ops [oF 70 4 6, oL 71 1 70, oM 72 5, oN 73 72, oB 74 .sub (.t 73) (.c (.int .i64 1)), oR 75 (.bsl 1 [(.t 74)]), ⟨(some 76), (.d (.app 1 8 (.t 71) (.t 75))), none⟩, oF 77 4 6, oS 1 77 76])))) (.ops [oM 23 7, oB 24 .add (.t 23) (.c (.int .i64 1)), oM 7 24])))
def ac84 : AC := (.seq (.ops [⟨(some 2), (.d (.box 5 (.t 0))), none⟩, oR 4 (.mov (.c (.isl [] .nil)))]) (.seq (.ops [oR 5 (.mov (.c (.isl [] .nil)))]) (.seq (.ops [oA 13 5 2, ⟨(some 6), (.d (.alloc [(.int .i64 0), (.int .i64 0), (.str []), (.isl [] .nil), (.isl [] .nil)])), none⟩, oS 5 6 13]) (.seq (.ops [oF 14 3 2, oL 15 1 14, oC 16 52 [(.t 15)], oF 17 3 6, oS 1 17 16, oF 18 4 6, ⟨none, (.d (.store 1 (.t 18) (.c (.isl [] .nil)))), none⟩]) (.seq (.seq (.ops [oI 7 0]) (.block 0 (.loop ac84_b2))) (.seq (.ops [oM 78 5, oA 79 5 6, oR 80 (.bsl 5 [(.t 79)]), ⟨(some 81), (.d (.app 5 80 (.t 78) (.t 80))), none⟩, oM 4 81]) .ret))))))
theorem ok84 : FnOk Tryz.prog dc false 84 82 [(.tmp 4)] ac84 := ⟨by kernel_rfl, _, _, Tryz.func84, rfl, by kernel_rfl, rfl, by kernel_rfl, by kernel_rfl⟩
def ac88 : AC := (.seq (.ops [oR 4 (.mov (.c (.isl [] .nil)))]) (.seq (.ops [oM 5 0, oR 6 (.build [(.int .i64 0), (.int .i64 0), (.str []), (.isl [] .nil), (.isl [] .nil)] [(0, (1, (.c (.int .i64 3)))), (2, (1, (.t 5)))]), oM 7 1, oC 8 84 [(.t 6), (.t 7)], oM 4 8]) .ret))
theorem ok88 : FnOk Tryz.prog dc false 88 9 [(.tmp 4)] ac88 := ⟨by kernel_rfl, _, _, Tryz.func88, rfl, by kernel_rfl, rfl, by kernel_rfl, by kernel_rfl⟩
def ac89 : AC := (.seq (.ops [oR 2 (.mov (.c (.isl [] .nil)))]) (.seq (.ops [oM 3 0, oR 4 (.build [(.int .i64 0), (.int .i64 0), (.str []), (.isl [] .nil), (.isl [] .nil)] [(0, (1, (.c (.int .i64 2)))), (2, (1, (.t 3)))]), oR 5 (.bsl 5 [(.t 4)]), oM 2 5]) .ret))
theorem ok89 : FnOk Tryz.prog dc false 89 6 [(.tmp 2)] ac89 := ⟨by kernel_rfl, _, _, Tryz.func89, rfl, by kernel_rfl, rfl, by kernel_rfl, by kernel_rfl⟩
def ac90_j0 : AC := (.seq (.ops [oB 16 .eql (.t 11) (.c (.int .i64 1)), oM 15 16]) (.cond (.t 15) .skip (.ops [oB 17 .eql (.t 11) (.c (.int .i64 2)), oM 15 17])))
def ac90_j1 : AC := (.seq (.ops [oB 39 .eql (.t 11) (.c (.int .i64 4)), oM 38 39]) (.cond (.t 38) .skip (.ops [oB 40 .eql (.t 11) (.c (.int .i64 5)), oM 38 40])))
def ac90_j2 : AC := (.seq (.ops [oB 44 .eql (.t 11) (.c (.int .i64 6)), oM 43 44]) (.cond (.t 43) .skip (.ops [oB 45 .eql (.t 11) (.c (.int .i64 12)), oM 43 45])))
def ac90_j3 : AC := (.seq (.ops [oB 49 .eql (.t 11) (.c (.int .i64 7)), oM 48 49]) (.cond (.t 48) .skip (.seq (.ops [oB 50 .eql (.t 11) (.c (.int .i64 8)), oM 48 50]) (.cond (.t 48) .skip (.seq (.ops [oB 51 .eql (.t 11) (.c (.int .i64 9)), oM 48 51]) (.cond (.t 48) .skip (.ops [oB 52 .eql (.t 11) (.c (.int .i64 13)), oM 48 52])))))))
def ac90_j4 : AC := (.seq (.ops [oB 61 .eql (.t 11) (.c (.int .i64 10)), oM 60 61]) (.cond (.t 60) .skip (.ops [oB 62 .eql (.t 11) (.c (.int .i64 11)), oM 60 62])))
def ac90_j5 : AC := (.seq (.ops [oB 71 .eql (.t 11) (.c (.int .i64 16)), oM 70 71]) (.cond (.t 70) .skip (.ops [oB 72 .eql (.t 11) (.c (.int .i64 17)), oM 70 72])))
def ac90_j6 : AC := (.seq (.ops [oB 83 .eql (.t 11) (.c (.int .i64 19)), oM 82 83]) (.cond (.t 82) .skip (.ops [oB 84 .eql (.t 11) (.c (.int .i64 21)), oM 82 84])))
def ac90 : AC := (.seq (.ops [⟨(some 1), (.d (.box 5 (.t 0))), none⟩, ⟨(some 2), (.d (.alloc [(.int .i64 0), (.int .i64 0), (.int .i64 0), (.int .i64 0), (.bool false), (.bool false)])), none⟩]) (.seq (.ops [oR 3 (.mov (.c (.fn (.func 140) [] [])))]) (.seq (.ops [oF 7 3 1, oL 8 1 7, oN 9 8, oM 4 9]) (.seq (.seq (.ops [oF 10 0 1, oL 11 1 10]) (.block 0 (.seq (.ops [oB 13 .eql (.t 11) (.c (.int .i64 0)), oM 12 13]) (.cond (.t 12) (.seq (.ops [oR 14 (.build [(.int .i64 0), (.int .i64 0), (.int .i64 0), (.int .i64 0), (.bool false), (.bool false)] [(5, (1, (.c (.bool true))))]), oS 6 2 14]) .ret) (.seq ac90_j0 (.cond (.t 15) (.seq (.ops [oR 18 (.build [(.int .i64 0), (.int .i64 0), (.int .i64 0), (.int .i64 0), (.bool false), (.bool false)] [(4, (1, (.c (.bool true))))]), oS 6 2 18]) .ret) (.seq (.ops [oB 20 .eql (.t 11) (.c (.int .i64 3)), oM 19 20]) (.cond (.t 19) (.seq (.seq (.ops [oF 22 2 1, oL 23 1 22, oC 24 63 [(.t 23)], oM 21 24, oE 25 21 0, oE 26 21 1, ⟨(some 5), (.d (.alloc [(.str []), (.int .i64 0), (.int .i64 0), (.int .i64 0), (.bool false), (.int .i64 0), (.int .i64 0)])), none⟩, oS 7 5 25, oM 6 26]) (.seq (.ops [oM 27 6]) (.cond (.t 27) (.seq (.ops [oF 28 4 1, oL 29 1 28, oN 30 29, oF 31 4 1, oL 32 1 31, oN 33 32, ⟨(some 34), (.n (.barr [(.int .i64 0), (.int .i64 0)] [(0, (1, (.t 30))), (1, (1, (.t 33)))])), none⟩, oR 35 (.build [(.int .i64 0), (.int .i64 0), (.int .i64 0), (.int .i64 0), (.bool false), (.bool false)] [(2, (2, (.t 34))), (4, (1, (.c (.bool true))))]), oS 6 2 35]) .ret) .skip))) (.seq (.ops [⟨(some 36), (.n (.barr [(.int .i64 0), (.int .i64 0)] [(0, (1, (.c (.int .i64 1)))), (1, (1, (.c (.int .i64 4))))])), none⟩, oR 37 (.build [(.int .i64 0), (.int .i64 0), (.int .i64 0), (.int .i64 0), (.bool false), (.bool false)] [(2, (2, (.t 36))), (4, (1, (.c (.bool true))))]), oS 6 2 37]) .ret)) (.seq ac90_j1 (.cond (.t 38) (.seq (.ops [⟨(some 41), (.n (.barr [(.int .i64 0), (.int .i64 0)] [(0, (1, (.c (.int .i64 0)))), (1, (1, (.c (.int .i64 30))))])), none⟩, oR 42 (.build [(.int .i64 0), (.int .i64 0), (.int .i64 0), (.int .i64 0), (.bool false), (.bool false)] [(2, (2, (.t 41)))]), oS 6 2 42]) .ret) (.seq ac90_j2 (.cond (.t 43) (.seq (.ops [oM 46 3, ⟨(some 47), (.call (.t 46) [(.c (.int .i64 1)), (.c (.int .i64 2))]), none⟩, oS 6 2 47]) .ret) (.seq ac90_j3 (.cond (.t 48) (.seq (.ops [⟨(some 53), (.n (.barr [(.int .i64 0), (.int .i64 0)] [(0, (1, (.c (.int .i64 1)))), (1, (1, (.c (.int .i64 4))))])), none⟩, oM 54 4, oB 55 .add (.t 54) (.c (.int .i64 1)), oM 56 4, oB 57 .add (.t 56) (.c (.int .i64 1)), ⟨(some 58), (.n (.barr [(.int .i64 0), (.int .i64 0)] [(0, (1, (.t 55))), (1, (1, (.t 57)))])), none⟩, oR 59 (.build [(.int .i64 0), (.int .i64 0), (.int .i64 0), (.int .i64 0), (.bool false), (.bool false)] [(0, (2, (.t 53))), (2, (2, (.t 58)))]), oS 6 2 59]) .ret) (.seq ac90_j4 (.cond (.t 60) (.seq (.ops [⟨(some 63), (.n (.barr [(.int .i64 0), (.int .i64 0)] [(0, (1, (.c (.int .i64 1)))), (1, (1, (.c (.int .i64 4))))])), none⟩, ⟨(some 64), (.n (.barr [(.int .i64 0), (.int .i64 0)] [(0, (1, (.c (.int .i64 1)))), (1, (1, (.c (.int .i64 1))))])), none⟩, oR 65 (.build [(.int .i64 0), (.int .i64 0), (.int .i64 0), (.int .i64 0), (.bool false), (.bool false)] [(0, (2, (.t 63))), (2, (2, (.t 64)))]), oS 6 2 65]) .ret) (.seq (.ops [oB 67 .eql (.t 11) (.c (.int .i64 14)), oM 66 67]) (.cond (.t 66) (.seq (.ops [⟨(some 68), (.n (.barr [(.int .i64 0), (.int .i64 0)] [(0, (1, (.c (.int .i64 2)))), (1, (1, (.c (.int .i64 5))))])), none⟩, oR 69 (.build [(.int .i64 0), (.int .i64 0), (.int .i64 0), (.int .i64 0), (.bool false), (.bool false)] [(2, (2, (.t 68)))]), oS 6 2 69]) .ret) (.seq ac90_j5 (.cond (.t 70) (.seq (.ops [⟨(some 73), (.n (.barr [(.int .i64 0), (.int .i64 0)] [(0, (1, (.c (.int .i64 1)))), (1, (1, (.c (.int .i64 30))))])), none⟩, oM 74 4, oM 75 4, ⟨(some 76), (.n (.barr [(.int .i64 0), (.int .i64 0)] [(0, (1, (.t 74))), (1, (1, (.t 75)))])), none⟩, oR 77 (.build [(.int .i64 0), (.int .i64 0), (.int .i64 0), (.int .i64 0), (.bool false), (.bool false)] [(0, (2, (.t 73))), (2, (2, (.t 76)))]), oS 6 2 77]) .ret) (.seq (.ops [oB 79 .eql (.t 11) (.c (.int .i64 18)), oM 78 79]) (.cond (.t 78) (.seq (.ops [⟨(some 80), (.n (.barr [(.int .i64 0), (.int .i64 0)] [(0, (1, (.c (.int .i64 1)))), (1, (1, (.c (.int .i64 1))))])), none⟩, oR 81 (.build [(.int .i64 0), (.int .i64 0), (.int .i64 0), (.int .i64 0), (.bool false), (.bool false)] [(2, (2, (.t 80))), (4, (1, (.c (.bool true))))]), oS 6 2 81]) .ret) (.seq ac90_j6 (.cond (.t 82) (.seq (.ops [oM 85 3, ⟨(some 86), (.call (.t 85) [(.c (.int .i64 0)), (.c (.int .i64 3))]), none⟩, oS 6 2 86]) .ret) (.seq (.ops [oB 88 .eql (.t 11) (.c (.int .i64 20)), oM 87 88]) (.cond (.t 87) (.seq (.ops [oR 89 (.build [(.int .i64 0), (.int .i64 0), (.int .i64 0), (.int .i64 0), (.bool false), (.bool false)] []), oS 6 2 89]) .ret) (.seq (.ops [oB 91 .eql (.t 11) (.c (.int .i64 22)), oM 90 91]) (.cond (.t 90) (.seq (.ops [⟨(some 92), (.n (.barr [(.int .i64 0), (.int .i64 0)] [(0, (1, (.c (.int .i64 2)))), (1, (1, (.c (.int .i64 30))))])), none⟩, oR 93 (.build [(.int .i64 0), (.int .i64 0), (.int .i64 0), (.int .i64 0), (.bool false), (.bool false)] [(2, (2, (.t 92)))]), oS 6 2 93]) .ret) (.seq (.ops [oB 95 .eql (.t 11) (.c (.int .i64 23)), oM 94 95]) (.cond (.t 94) (.seq (.ops [⟨(some 96), (.n (.barr [(.int .i64 0), (.int .i64 0)] [(0, (1, (.c (.int .i64 1)))), (1, (1, (.c (.int .i64 5))))])), none⟩, ⟨(some 97), (.n (.barr [(.int .i64 0), (.int .i64 0)] [(0, (1, (.c (.int .i64 2)))), (1, (1, (.c (.int .i64 2))))])), none⟩, oR 98 (.build [(.int .i64 0), (.int .i64 0), (.int .i64 0), (.int .i64 0), (.bool false), (.bool false)] [(0, (2, (.t 96))), (2, (2, (.t 97))), (5, (1, (.c (.bool true))))]), oS 6 2 98]) .ret) (.seq (.ops [oB 100 .eql (.t 11) (.c (.int .i64 24)), oM 99 100]) (.cond (.t 99) (.seq (.ops [⟨(some 101), (.n (.barr [(.int .i64 0), (.int .i64 0)] [(0, (1, (.c (.int .i64 1)))), (1, (1, (.c (.int .i64 4))))])), none⟩, ⟨(some 102), (.n (.barr [(.int .i64 0), (.int .i64 0)] [(0, (1, (.c (.int .i64 1)))), (1, (1, (.c (.int .i64 1))))])), none⟩, oR 103 (.build [(.int .i64 0), (.int .i64 0), (.int .i64 0), (.int .i64 0), (.bool false), (.bool false)] [(0, (2, (.t 101))), (2, (2, (.t 102)))]), oS 6 2 103]) .ret) .skip)))))))))))))))))))))))))))))))) (.seq (.ops [oM 104 3, ⟨(some 105), (.call (.t 104) [(.c (.int .i64 0)), (.c (.int .i64 2))]), none⟩, oS 6 2 105]) .ret)))))
theorem ok90 : FnOk Tryz.prog dc false 90 106 [(.cell 2 6 true)] ac90 := ⟨by kernel_rfl, _, _, Tryz.func90, rfl, by kernel_rfl, rfl, by kernel_rfl, by kernel_rfl⟩
def ac91 : AC := (.seq (.ops [⟨(some 1), (.d (.box 1 (.t 0))), none⟩, oR 2 (.mov (.c .nilfn))]) (.seq (.ops [oR 3 (.mkfn (.func 141) [] [(.t 1)]), oM 2 3]) .ret))
theorem ok91 : FnOk Tryz.prog dc false 91 4 [(.tmp 2)] ac91 := ⟨by kernel_rfl, _, _, Tryz.func91, rfl, by kernel_rfl, rfl, by kernel_rfl, by kernel_rfl⟩
def ac92 : AC := (.seq (.ops [oR 2 (.mov (.c (.bool false)))]) (.seq (.ops [oR 3 (.mov (.c (.fn (.func 142) [] [])))]) (.seq (.ops [oM 4 0, oR 5 (.slen (.t 4)), oB 6 .leq (.t 5) (.c (.int .i64 40)), oM 7 6, oMg 8 0 7 true, oMg 9 3 7 true, oCg 10 143 [(.t 8), (.t 9)] 7 true, oRg 11 (.not (.t 10)) 7 true, oR 12 (.pick (.t 7) (.t 11) (.c (.bool false))), oM 2 12]) .ret)))
theorem ok92 : FnOk Tryz.prog dc false 92 13 [(.tmp 2)] ac92 := ⟨by kernel_rfl, _, _, Tryz.func92, rfl, by kernel_rfl, rfl, by kernel_rfl, by kernel_rfl⟩
def ac93_p0 : List AOp := [oFg 25 2 1 24 false, oLg 26 1 25 24 false, oCg 27 129 [(.t 26)] 24 false, oRg 28 (.not (.t 27)) 24 false, oMg 29 28 24 false, oFg 30 2 1 29 true, oLg 31 1 30 29 true, oCg 32 146 [(.t 31)] 29 true, oRg 33 (.not (.t 32)) 29 true, oRg 34 (.pick (.t 29) (.t 33) (.c (.bool false))) 24 false, oR 35 (.pick (.t 24) (.c (.bool true)) (.t 34))]
def ac93_p1 : List AOp := [oMg 40 5 39 false, oRg 41 (.not (.t 40)) 39 false, oMg 42 41 39 false, oFg 43 2 1 42 true, oLg 44 1 43 42 true, oCg 45 146 [(.t 44)] 42 true, oRg 46 (.not (.t 45)) 42 true, oRg 47 (.pick (.t 42) (.t 46) (.c (.bool false))) 39 false, oR 48 (.pick (.t 39) (.c (.bool true)) (.t 47))]
def ac93_p2 : List AOp := [oFg 51 4 1 50 true, oLg 52 1 51 50 true, oRg 53 (.len (.t 52)) 50 true, oFg 54 5 4 50 true, oLg 55 1 54 50 true, oFg 56 6 4 50 true, oLg 57 1 56 50 true, oCg 58 69 [(.t 53), (.t 55), (.t 57)] 50 true, oRg 59 (.not (.t 58)) 50 true, oR 60 (.pick (.t 50) (.t 59) (.c (.bool false)))]
def ac93_p3 : List AOp := [oFg 65 2 1 64 false, oLg 66 1 65 64 false, oCg 67 77 [(.t 66)] 64 false, oRg 68 (.not (.t 67)) 64 false, oR 69 (.pick (.t 64) (.c (.bool true)) (.t 68))]
def ac93_j4 : AC := (.seq (.ops [oF 19 0 1, oL 20 1 19]) (.block 0 (.seq (.ops [oB 22 .eql (.t 20) (.c (.int .i64 2)), oM 21 22]) (.cond (.t 21) (.ops ([oM 23 3, oM 24 23] ++ ac93_p0 ++ [oM 3 35])) (.seq (.ops [oB 37 .eql (.t 20) (.c (.int .i64 3)), oM 36 37]) (.cond (.t 36) (.seq (.ops ([oM 38 3, oM 39 38] ++ ac93_p1 ++ [oM 3 48])) (.ops ([oM 49 5, oM 50 49] ++ ac93_p2 ++ [oM 6 60]))) (.seq (.ops [oB 62 .eql (.t 20) (.c (.int .i64 18)), oM 61 62]) (.cond (.t 61) (.ops ([oM 63 3, oM 64 63] ++ ac93_p3 ++ [oM 3 69])) .skip))))))))
def ac93_b0 : AC := (.seq (.ops [oB 74 .lss (.t 73) (.t 72)]) (.seq (.cond (.t 74) .skip (.exit 1)) (.seq (.block 2 (.seq (.ops [oM 75 73, oX 76 1 71 73, oL 77 1 76, oM 8 75, oM 9 77]) (.ops [oM 78 7, oM 79 78, oFg 80 3 1 79 false, oLg 81 1 80 79 false, oMg 82 8 79 false, oRg 83 (.slc 1 (.t 81) none (some (.t 82)) none) 79 false, oMg 84 9 79 false, oCg 85 81 [(.t 83), (.t 84)] 79 false, oR 86 (.pick (.t 79) (.c (.bool true)) (.t 85)), oM 7 86]))) (.ops [oB 87 .add (.t 73) (.c (.int .i64 1)), oM 73 87]))))
def ac93 : AC := (.seq (.ops [⟨(some 1), (.d (.box 5 (.t 0))), none⟩, oI 2 0]) (.seq (.ops [oF 10 3 1, oL 11 1 10, oC 12 144 [(.t 11), (.c (.fn (.func 145) [] []))], oM 3 12]) (.seq (.ops [oF 14 2 1, oL 15 1 14, oC 16 63 [(.t 15)], oM 13 16, oE 17 13 0, oE 18 13 1, ⟨(some 4), (.d (.alloc [(.str []), (.int .i64 0), (.int .i64 0), (.int .i64 0), (.bool false), (.int .i64 0), (.int .i64 0)])), none⟩, oS 7 4 17, oM 5 18]) (.seq (.ops [oR 6 (.mov (.c (.bool false)))]) (.seq ac93_j4 (.seq (.ops [oR 7 (.mov (.c (.bool false)))]) (.seq (.seq (.ops [oF 70 3 1, oL 71 1 70, oN 72 71, oI 73 0]) (.block 1 (.loop ac93_b0))) (.seq (.ops [oM 88 3, oC 89 47 [(.t 88), (.c (.int .i64 7))], oM 90 6, oC 91 47 [(.t 90), (.c (.int .i64 17))], oM 92 7, oC 93 47 [(.t 92), (.c (.int .i64 12))], oR 94 (.bsl 1 [(.t 89), (.t 91), (.t 93)]), oC 95 46 [(.t 94)], oM 2 95]) .ret))))))))
theorem ok93 : FnOk Tryz.prog dc false 93 96 [(.tmp 2)] ac93 := ⟨by kernel_rfl, _, _, Tryz.func93, rfl, by kernel_rfl, rfl, by kernel_rfl, by kernel_rfl⟩
def ac94_j0 : AC := (.seq (.ops [oM 9 1, oB 10 .lss (.t 9) (.c (.int .i64 0))]) (.cond (.t 10) (.ops [oR 11 (.mkif 9 (.c (.str [99, 97, 110, 110, 111, 116, 32, 98, 101, 32, 110, 101, 103, 97, 116, 105, 118, 101]))), ⟨none, .bad, none⟩]) .skip))
def ac94_j1 : AC := (.seq (.ops [oM 21 5, oB 22 .gtr (.t 21) (.c (.int .u64 0)), oM 23 22, oMg 24 6 23 false, oBg 25 .gtr (.t 24) (.c (.int .u64 9223372036854775807)) 23 false, oR 26 (.pick (.t 23) (.c (.bool true)) (.t 25))]) (.cond (.t 26) (.ops [oR 27 (.mkif 9 (.c (.str [116, 104, 101, 32, 114, 101, 115, 117, 108, 116, 32, 111, 102, 32, 40, 108, 101, 110, 40, 120, 41, 32, 42, 32, 99, 111, 117, 110, 116, 41, 32, 111, 118, 101, 114, 102, 108, 111, 119, 115]))), ⟨none, .bad, none⟩]) .skip))
def ac94_b0 : AC := (.seq (.seq (.ops [oM 34 8, oM 35 7, oN 36 35, oB 37 .lss (.t 34) (.t 36)]) (.cond (.t 37) .skip (.exit 0))) (.block 1 (.par [(oM 38 8, false), (oM 39 7, false), (oM 40 8, false), (oR 41 (.slc 1 (.t 39) (some (.t 40)) none none), false), (oM 42 7, false), (oM 43 8, false), (oR 44 (.slc 1 (.t 42) none (some (.t 43)) none), false), (⟨(some 45), (.n (.copy 1 (.t 41) (.t 44))), none⟩, true)] [oB 46 .add (.t 38) (.t 45), oM 8 46])))
def ac94 : AC := (.seq (.ops [oR 4 (.mov (.c (.isl [] .nil)))]) (.seq ac94_j0 (.seq (.ops [oM 13 0, oN 14 13, oR 15 (.conv .u64 (.t 14)), oM 16 1, oR 17 (.conv .u64 (.t 16)), oC 18 147 [(.t 15), (.t 17)], oM 12 18, oE 19 12 0, oE 20 12 1, oM 5 19, oM 6 20]) (.seq ac94_j1 (.seq (.ops [oM 28 6, oR 29 (.conv .i64 (.t 28)), ⟨(some 30), (.d (.mksl 1 8 [(.int .i64 0)] (.t 29) (.t 29))), none⟩, oM 7 30]) (.seq (.ops [oM 31 7, oM 32 0, ⟨(some 33), (.n (.copy 1 (.t 31) (.t 32))), none⟩, oM 8 33]) (.seq (.block 0 (.loop ac94_b0)) (.seq (.ops [oM 47 7, oM 4 47]) .ret))))))))
theorem ok94 : FnOk Tryz.prog dc false 94 48 [(.tmp 4)] ac94 := ⟨by kernel_rfl, _, _, Tryz.func94, rfl, by kernel_rfl, rfl, by kernel_rfl, by kernel_rfl⟩
def ac98 : AC := (.seq (.ops [oR 2 (.mov (.c (.bool false)))]) (.seq (.ops [oR 3 (.bsl 1 [(.c (.int .i64 8)), (.c (.int .i64 9)), (.c (.int .i64 10)), (.c (.int .i64 11)), (.c (.int .i64 12)), (.c (.int .i64 21)), (.c (.int .i64 22)), (.c (.int .i64 23)), (.c (.int .i64 24))]), oM 4 0, oC 5 149 [(.t 3), (.t 4)], oM 2 5]) .ret))
theorem ok98 : FnOk Tryz.prog dc false 98 6 [(.tmp 2)] ac98 := ⟨by kernel_rfl, _, _, Tryz.func98, rfl, by kernel_rfl, rfl, by kernel_rfl, by kernel_rfl⟩
def ac99 : AC := (.seq (.ops [⟨(some 2), (.d (.box 1 (.t 0))), none⟩, oR 4 (.mov (.c (.str [])))]) (.seq (.ops [oA 5 1 2, oM 6 1, oC 7 59 [(.t 5), (.t 6), (.c (.bool false))], oB 8 .add (.c (.str [40])) (.t 7), oB 9 .add (.t 8) (.c (.str [41])), oM 4 9]) .ret))
theorem ok99 : FnOk Tryz.prog dc false 99 10 [(.tmp 4)] ac99 := ⟨by kernel_rfl, _, _, Tryz.func99, rfl, by kernel_rfl, rfl, by kernel_rfl, by kernel_rfl⟩
def ac100 : AC := (.seq (.ops [⟨(some 2), (.d (.box 1 (.t 0))), none⟩, ⟨(some 4), (.d (.alloc [(.str []), (.int .i64 0), (.int .i64 0), (.int .i64 0), (.bool false), (.int .i64 0), (.int .i64 0)])), none⟩, oR 5 (.mov (.c (.bool false)))]) (.seq (.seq (.ops [oF 6 0 2, oL 7 1 6, oM 8 1, oX 9 5 7 8, oF 10 0 9, oL 11 1 10, oB 12 .neq (.t 11) (.c (.int .i64 3))]) (.cond (.t 12) (.seq (.ops [oR 13 (.build [(.str []), (.int .i64 0), (.int .i64 0), (.int .i64 0), (.bool false), (.int .i64 0), (.int .i64 0)] []), oS 7 4 13, oR 5 (.mov (.c (.bool false)))]) .ret) .skip)) (.seq (.ops [oF 14 0 2, oL 15 1 14, oM 16 1, oX 17 5 15 16, oF 18 2 17, oL 19 1 18, oC 20 63 [(.t 19)], oE 21 20 0, oE 22 20 1, oS 7 4 21, oM 5 22]) .ret)))
theorem ok100 : FnOk Tryz.prog dc false 100 23 [(.cell 4 7 true), (.tmp 5)] ac100 := ⟨by kernel_rfl, _, _, Tryz.func100, rfl, by kernel_rfl, rfl, by kernel_rfl, by kernel_rfl⟩
def ac101_p0 : List AOp := [oFg 71 1 12 70 true, oLg 72 1 71 70 true, oBg 73 .eql (.t 72) (.c (.int .i64 0)) 70 true, oMg 74 73 70 true, oFg 75 2 12 74 true, oLg 76 1 75 74 true, oFg 77 2 6 74 true, oLg 78 1 77 74 true, oBg 79 .lss (.t 76) (.t 78) 74 true, oRg 80 (.pick (.t 74) (.t 79) (.c (.bool false))) 70 true, oMg 81 80 70 true, oFg 82 1 12 81 false, oLg 83 1 82 81 false, oBg 84 .neq (.t 83) (.c (.int .i64 0)) 81 false, oMg 85 84 81 false, oFg 86 2 12 85 true, oLg 87 1 86 85 true, oFg 88 3 6 85 true, oLg 89 1 88 85 true, oBg 90 .leq (.t 87) (.t 89) 85 true, oRg 91 (.pick (.t 85) (.t 90) (.c (.bool false))) 81 false, oRg 92 (.pick (.t 81) (.c (.bool true)) (.t 91)) 70 true, oMg 93 92 70 true, oFg 94 0 12 93 false, oLg 95 1 94 93 false, oBg 96 .eql (.t 95) (.c (.str [45, 46])) 93 false, oMg 97 96 93 false, oFg 98 0 6 97 true, oLg 99 1 98 97 true, oBg 100 .eql (.t 99) (.c (.str [45, 46])) 97 true, oRg 101 (.pick (.t 97) (.t 100) (.c (.bool false))) 93 false, oRg 102 (.pick (.t 93) (.c (.bool true)) (.t 101)) 70 true, oR 103 (.pick (.t 70) (.t 102) (.c (.bool false)))]
def ac101_p1 : List AOp := [oFg 116 0 6 115 true, oLg 117 1 116 115 true, oRg 118 (.sidx (.t 117) (.c (.int .i64 0))) 115 true, oBg 119 .leq (.t 118) (.c (.int .u8 90)) 115 true, oR 120 (.pick (.t 115) (.t 119) (.c (.bool false)))]
def ac101_j2 : AC := (.block 1 (.seq (.ops [oF 107 0 6, oL 108 1 107, oB 109 .eql (.t 108) (.c (.str [45, 46])), oM 106 109]) (.cond (.t 106) (.ops [oR 15 (.mov (.c (.str [45])))]) (.seq (.ops ([oF 111 0 6, oL 112 1 111, oR 113 (.sidx (.t 112) (.c (.int .i64 0))), oB 114 .geq (.t 113) (.c (.int .u8 65)), oM 115 114] ++ ac101_p1 ++ [oM 110 120])) (.cond (.t 110) (.ops [oM 121 15, oB 122 .add (.t 121) (.c (.str [32])), oM 15 122]) .skip)))))
def ac101_p3 : List AOp := [oFg 153 2 20 152 true, oLg 154 1 153 152 true, oFg 155 3 6 152 true, oLg 156 1 155 152 true, oBg 157 .leq (.t 154) (.t 156) 152 true, oR 158 (.pick (.t 152) (.t 157) (.c (.bool false))), oM 159 158, oMg 160 18 159 true, oBg 161 .eql (.t 160) (.c (.int .i64 0)) 159 true, oMg 162 161 159 true, oFg 163 0 20 162 true, oLg 164 1 163 162 true, oFg 165 0 6 162 true, oLg 166 1 165 162 true, oBg 167 .eql (.t 164) (.t 166) 162 true, oRg 168 (.pick (.t 162) (.t 167) (.c (.bool false))) 159 true, oMg 169 168 159 true, oFg 170 4 6 169 true, oLg 171 1 170 169 true, oRg 172 (.pick (.t 169) (.t 171) (.c (.bool false))) 159 true, oRg 173 (.not (.t 172)) 159 true, oR 174 (.pick (.t 159) (.t 173) (.c (.bool false)))]
def ac101_b0 : AC := (.seq (.ops [oB 141 .lss (.t 140) (.t 139)]) (.seq (.cond (.t 141) .skip (.exit 2)) (.seq (.block 3 (.seq (.ops [oM 142 140, oX 143 1 138 140, oL 144 1 143, oM 18 142, oM 19 144]) (.seq (.ops [oA 146 1 4, oM 147 19, oC 148 100 [(.t 146), (.t 147)], oM 145 148, oE 149 145 0, oE 150 145 1, ⟨(some 20), (.d (.alloc [(.str []), (.int .i64 0), (.int .i64 0), (.int .i64 0), (.bool false), (.int .i64 0), (.int .i64 0)])), none⟩, oS 7 20 149, oM 21 150]) (.seq (.ops ([oM 151 21, oM 152 151] ++ ac101_p3 ++ [oM 22 174])) (.ops [oM 175 16, oA 176 1 4, oM 177 19, oM 178 22, oM 179 18, oM 180 17, oB 181 .lss (.t 179) (.t 180), oM 182 181, oMg 183 3 182 false, oR 184 (.pick (.t 182) (.c (.bool true)) (.t 183)), oC 185 150 [(.t 176), (.t 177), (.t 178), (.t 184)], oR 186 (.bsl 1 [(.t 185)]), ⟨(some 187), (.d (.app 1 16 (.t 175) (.t 186))), none⟩, oM 16 187]))))) (.ops [oB 188 .add (.t 140) (.c (.int .i64 1)), oM 140 188]))))
def ac101 : AC := (.seq (.ops [⟨(some 4), (.d (.box 1 (.t 0))), none⟩, ⟨(some 6), (.d (.box 7 (.t 2))), none⟩, oR 8 (.mov (.c (.str [])))]) (.seq (.ops [oF 23 0 4, oL 24 1 23, oM 25 1, oX 26 5 24 25, oA 27 5 26, ⟨(some 9), (.d (.alloc [(.int .i64 0), (.int .i64 0), (.str []), (.isl [] .nil), (.isl [] .nil)])), none⟩, oS 5 9 27]) (.seq (.seq (.ops [oF 28 1 6, oL 29 1 28]) (.block 0 (.seq (.ops [oB 31 .eql (.t 29) (.c (.int .i64 2)), oM 30 31]) (.cond (.t 30) (.seq (.par [(oA 33 1 4, false), (oF 34 4 9, false), (oL 35 1 34, false), (oR 36 (.idx 1 (.t 35) (.c (.int .i64 0))), false), (oL 37 1 36, false), (oC 38 100 [(.t 33), (.t 37)], false), (oM 32 38, false), (oE 39 32 0, false), (oE 40 32 1, false), (⟨(some 10), (.d (.alloc [(.str []), (.int .i64 0), (.int .i64 0), (.int .i64 0), (.bool false), (.int .i64 0), (.int .i64 0)])), none⟩, true), (oS 7 10 39, true)] [oM 11 40]) (.seq (.par [(oA 41 1 4, false), (oF 42 4 9, false), (oL 43 1 42, false), (oR 44 (.idx 1 (.t 43) (.c (.int .i64 0))), false), (oL 45 1 44, false), (oM 46 11, false), (oM 47 46, false), (oFg 48 0 10 47 true, false), (oLg 49 1 48 47 true, false), (oFg 50 0 6 47 true, false), (oLg 51 1 50 47 true, false), (oBg 52 .neq (.t 49) (.t 51) 47 true, false), (oR 53 (.pick (.t 47) (.t 52) (.c (.bool false))), false), (oC 54 150 [(.t 41), (.t 45), (.t 53), (.c (.bool true))], false), (oF 55 0 6, false), (oL 56 1 55, false)] [oB 57 .add (.t 54) (.t 56), oM 8 57]) .ret)) (.seq (.ops [oB 59 .eql (.t 29) (.c (.int .i64 0)), oM 58 59]) (.cond (.t 58) (.seq (.par [(oA 61 1 4, false), (oF 62 4 9, false), (oL 63 1 62, false), (oR 64 (.idx 1 (.t 63) (.c (.int .i64 0))), false), (oL 65 1 64, false), (oC 66 100 [(.t 61), (.t 65)], false), (oM 60 66, false), (oE 67 60 0, false), (oE 68 60 1, false), (⟨(some 12), (.d (.alloc [(.str []), (.int .i64 0), (.int .i64 0), (.int .i64 0), (.bool false), (.int .i64 0), (.int .i64 0)])), none⟩, true), (oS 7 12 67, true)] [oM 13 68]) (.seq (.ops ([oM 69 13, oM 70 69] ++ ac101_p0 ++ [oM 14 103])) (.seq (.ops [oF 104 0 6, oL 105 1 104, oM 15 105]) (.seq ac101_j2 (.seq (.par [(oM 123 15, false), (oA 124 1 4, false), (oF 125 4 9, false), (oL 126 1 125, false), (oR 127 (.idx 1 (.t 126) (.c (.int .i64 0))), false), (oL 128 1 127, false), (oM 129 14, false), (oM 130 3, false), (oC 131 150 [(.t 124), (.t 128), (.t 129), (.t 130)], false)] [oB 132 .add (.t 123) (.t 131), oM 8 132]) .ret))))) .skip)))))) (.seq (.ops [oR 16 (.mov (.c (.isl [] .nil)))]) (.seq (.ops [oF 133 4 9, oL 134 1 133, oN 135 134, oB 136 .sub (.t 135) (.c (.int .i64 1)), oM 17 136]) (.seq (.seq (.ops [oF 137 4 9, oL 138 1 137, oN 139 138, oI 140 0]) (.block 2 (.loop ac101_b0))) (.seq (.ops [oM 189 16, oF 190 0 6, oL 191 1 190, oB 192 .add (.c (.str [32])) (.t 191), oB 193 .add (.t 192) (.c (.str [32])), oC 194 151 [(.t 189), (.t 193)], oM 8 194]) .ret)))))))
theorem ok101 : FnOk Tryz.prog dc false 101 195 [(.tmp 8)] ac101 := ⟨by kernel_rfl, _, _, Tryz.func101, rfl, by kernel_rfl, rfl, by kernel_rfl, by kernel_rfl⟩
def ac102 : AC := (.seq (.ops [⟨(some 2), (.d (.box 1 (.t 0))), none⟩, oR 4 (.mov (.c (.str [])))]) (.seq (.ops [oF 7 0 2, oL 8 1 7, oM 9 1, oX 10 5 8 9, oA 11 5 10, ⟨(some 5), (.d (.alloc [(.int .i64 0), (.int .i64 0), (.str []), (.isl [] .nil), (.isl [] .nil)])), none⟩, oS 5 5 11]) (.seq (.ops [oF 12 4 5, oL 13 1 12, oN 14 13, oB 15 .sub (.t 14) (.c (.int .i64 1)), oM 6 15]) (.seq (.seq (.ops [oF 16 0 5, oL 17 1 16]) (.block 0 (.seq (.ops [oB 19 .eql (.t 17) (.c (.int .i64 0)), oM 18 19]) (.cond (.t 18) (.seq (.ops [oF 20 1 5, oL 21 1 20, oC 22 152 [(.t 21)], oM 4 22]) .ret) (.seq (.ops [oB 24 .eql (.t 17) (.c (.int .i64 1)), oM 23 24]) (.cond (.t 23) (.seq (.ops [oF 25 2 5, oL 26 1 25, oB 27 .add (.c (.str [34])) (.t 26), oB 28 .add (.t 27) (.c (.str [34])), oM 4 28]) .ret) (.seq (.ops [oB 30 .eql (.t 17) (.c (.int .i64 2)), oM 29 30]) (.cond (.t 29) (.seq (.ops [oF 31 2 5, oL 32 1 31, oM 4 32]) .ret) (.seq (.ops [oB 34 .eql (.t 17) (.c (.int .i64 3)), oM 33 34]) (.cond (.t 33) (.seq (.par [(oF 35 2 5, false), (oL 36 1 35, false), (oB 37 .add (.t 36) (.c (.str [40])), false), (oA 38 1 2, false), (oF 39 4 5, false), (oL 40 1 39, false), (oC 41 153 [(.t 38), (.t 40)], false)] [oB 42 .add (.t 37) (.t 41), oB 43 .add (.t 42) (.c (.str [41])), oM 4 43]) .ret) (.seq (.ops [oB 45 .eql (.t 17) (.c (.int .i64 4)), oM 44 45]) (.cond (.t 44) (.seq (.ops [oA 46 1 2, oF 47 4 5, oL 48 1 47, oC 49 153 [(.t 46), (.t 48)], oB 50 .add (.c (.str [60, 60])) (.t 49), oB 51 .add (.t 50) (.c (.str [62, 62])), oM 4 51]) .ret) (.seq (.ops [oB 53 .eql (.t 17) (.c (.int .i64 5)), oM 52 53]) (.cond (.t 52) (.seq (.ops [oA 54 1 2, oF 55 4 5, oL 56 1 55, oC 57 153 [(.t 54), (.t 56)], oB 58 .add (.c (.str [123])) (.t 57), oB 59 .add (.t 58) (.c (.str [125])), oM 4 59]) .ret) (.seq (.ops [oB 61 .eql (.t 17) (.c (.int .i64 6)), oM 60 61]) (.cond (.t 60) (.seq (.par [(oA 62 1 2, false), (oA 63 5 5, false), (oC 64 154 [(.t 62), (.t 63)], false), (oB 65 .add (.c (.str [123])) (.t 64), false), (oB 66 .add (.t 65) (.c (.str [32, 58, 32])), false), (oA 67 1 2, false), (oF 68 4 5, false), (oL 69 1 68, false), (oR 70 (.idx 1 (.t 69) (.c (.int .i64 1))), false), (oL 71 1 70, false), (oC 72 59 [(.t 67), (.t 71), (.c (.bool false))], false)] [oB 73 .add (.t 66) (.t 72), oB 74 .add (.t 73) (.c (.str [125])), oM 4 74]) .ret) (.seq (.ops [oB 76 .eql (.t 17) (.c (.int .i64 7)), oM 75 76]) (.cond (.t 75) (.seq (.par [(oA 77 1 2, false), (oF 78 4 5, false), (oL 79 1 78, false), (oM 80 6, false), (oX 81 1 79 80, false), (oL 82 1 81, false), (oC 83 155 [(.t 77), (.t 82)], false), (oB 84 .add (.c (.str [123])) (.t 83), false), (oB 85 .add (.t 84) (.c (.str [32, 58, 32])), false), (oA 86 1 2, false), (oA 87 5 5, false), (oC 88 154 [(.t 86), (.t 87)], false)] [oB 89 .add (.t 85) (.t 88), oB 90 .add (.t 89) (.c (.str [125])), oM 4 90]) .ret) (.seq (.ops [oB 92 .eql (.t 17) (.c (.int .i64 13)), oM 91 92]) (.cond (.t 91) (.seq (.par [(oA 93 1 2, false), (oA 94 5 5, false), (oC 95 154 [(.t 93), (.t 94)], false), (oB 96 .add (.c (.str [91])) (.t 95), false), (oB 97 .add (.t 96) (.c (.str [32, 124, 45, 62, 32])), false), (oA 98 1 2, false), (oF 99 4 5, false), (oL 100 1 99, false), (oM 101 6, false), (oX 102 1 100 101, false), (oL 103 1 102, false), (oC 104 59 [(.t 98), (.t 103), (.c (.bool false))], false)] [oB 105 .add (.t 97) (.t 104), oB 106 .add (.t 105) (.c (.str [93])), oM 4 106]) .ret) (.seq (.ops [oB 108 .eql (.t 17) (.c (.int .i64 14)), oM 107 108]) (.cond (.t 107) (.seq (.par [(oA 109 1 2, false), (oF 110 4 5, false), (oL 111 1 110, false), (oR 112 (.idx 1 (.t 111) (.c (.int .i64 0))), false), (oL 113 1 112, false), (oC 114 156 [(.t 109), (.t 113)], false), (oB 115 .add (.t 114) (.c (.str [91])), false), (oA 116 1 2, false), (oF 117 4 5, false), (oL 118 1 117, false), (oR 119 (.slc 1 (.t 118) (some (.c (.int .i64 1))) none none), false), (oC 120 153 [(.t 116), (.t 119)], false)] [oB 121 .add (.t 115) (.t 120), oB 122 .add (.t 121) (.c (.str [93])), oM 4 122]) .ret) (.seq (.ops [oB 124 .eql (.t 17) (.c (.int .i64 15)), oM 123 124]) (.cond (.t 123) (.seq (.par [(oA 125 1 2, false), (oF 126 4 5, false), (oL 127 1 126, false), (oR 128 (.idx 1 (.t 127) (.c (.int .i64 0))), false), (oL 129 1 128, false), (oC 130 59 [(.t 125), (.t 129), (.c (.bool false))], false), (oB 131 .add (.c (.str [91])) (.t 130), false), (oB 132 .add (.t 131) (.c (.str [32, 45, 62, 32])), false), (oA 133 1 2, false), (oF 134 4 5, false), (oL 135 1 134, false), (oR 136 (.idx 1 (.t 135) (.c (.int .i64 1))), false), (oL 137 1 136, false), (oC 138 59 [(.t 133), (.t 137), (.c (.bool false))], false)] [oB 139 .add (.t 132) (.t 138), oB 140 .add (.t 139) (.c (.str [93])), oM 4 140]) .ret) (.seq (.ops [oB 142 .eql (.t 17) (.c (.int .i64 16)), oM 141 142]) (.cond (.t 141) (.seq (.ops [oA 143 1 2, oA 144 5 5, oC 145 157 [(.t 143), (.t 144), (.c (.str [32, 124, 45, 62, 32]))], oB 146 .add (.c (.str [91])) (.t 145), oB 147 .add (.t 146) (.c (.str [93])), oM 4 147]) .ret) (.seq (.ops [oB 149 .eql (.t 17) (.c (.int .i64 17)), oM 148 149]) (.cond (.t 148) (.seq (.ops [oA 150 1 2, oA 151 5 5, oC 152 157 [(.t 150), (.t 151), (.c (.str [32, 58, 32]))], oB 153 .add (.c (.str [91])) (.t 152), oB 154 .add (.t 153) (.c (.str [93])), oM 4 154]) .ret) (.seq (.ops [oB 156 .eql (.t 17) (.c (.int .i64 18)), oM 155 156]) (.cond (.t 155) (.seq (.par [(oA 157 1 2, false), (oF 158 4 5, false), (oL 159 1 158, false), (oR 160 (.idx 1 (.t 159) (.c (.int .i64 0))), false), (oL 161 1 160, false), (oC 162 156 [(.t 157), (.t 161)], false), (oB 163 .add (.t 162) (.c (.str [46])), false), (oF 164 2 5, false), (oL 165 1 164, false)] [oB 166 .add (.t 163) (.t 165), oM 4 166]) .ret) (.seq (.ops [oB 168 .eql (.t 17) (.c (.int .i64 19)), oM 167 168]) (.cond (.t 167) (.seq (.par [(oA 169 1 2, false), (oF 170 4 5, false), (oL 171 1 170, false), (oR 172 (.idx 1 (.t 171) (.c (.int .i64 0))), false), (oL 173 1 172, false), (oC 174 59 [(.t 169), (.t 173), (.c (.bool false))], false), (oB 175 .add (.c (.str [91])) (.t 174), false), (oB 176 .add (.t 175) (.c (.str [32, 69, 88, 67, 69, 80, 84, 32, 33, 91])), false), (oA 177 1 2, false), (oF 178 4 5, false), (oL 179 1 178, false), (oR 180 (.idx 1 (.t 179) (.c (.int .i64 1))), false), (oL 181 1 180, false), (oC 182 59 [(.t 177), (.t 181), (.c (.bool false))], false), (oB 183 .add (.t 176) (.t 182), false), (oB 184 .add (.t 183) (.c (.str [93, 32, 61, 32])), false), (oA 185 1 2, false), (oF 186 4 5, false), (oL 187 1 186, false), (oR 188 (.idx 1 (.t 187) (.c (.int .i64 2))), false), (oL 189 1 188, false), (oC 190 59 [(.t 185), (.t 189), (.c (.bool false))], false)] [oB 191 .add (.t 184) (.t 190), oB 192 .add (.t 191) (.c (.str [93])), oM 4 192]) .ret) (.seq (.ops [oB 194 .eql (.t 17) (.c (.int .i64 20)), oM 193 194]) (.cond (.t 193) (.seq (.ops [oR 4 (.mov (.c (.str [64])))]) .ret) (.seq (.ops [oB 196 .eql (.t 17) (.c (.int .i64 25)), oM 195 196]) (.cond (.t 195) (.seq (.par [(oA 197 1 2, false), (oF 198 4 5, false), (oL 199 1 198, false), (oR 200 (.idx 1 (.t 199) (.c (.int .i64 0))), false), (oL 201 1 200, false), (oC 202 59 [(.t 197), (.t 201), (.c (.bool false))], false), (oB 203 .add (.c (.str [91])) (.t 202), false), (oB 204 .add (.t 203) (.c (.str [93, 95])), false), (oA 205 1 2, false), (oF 206 4 5, false), (oL 207 1 206, false), (oR 208 (.idx 1 (.t 207) (.c (.int .i64 1))), false), (oL 209 1 208, false), (oC 210 158 [(.t 205), (.t 209)], false)] [oB 211 .add (.t 204) (.t 210), oM 4 211]) .ret) (.seq (.ops [oB 213 .eql (.t 17) (.c (.int .i64 26)), oM 212 213]) (.cond (.t 212) (.seq (.par [(oA 214 1 2, false), (oF 215 4 5, false), (oL 216 1 215, false), (oR 217 (.idx 1 (.t 216) (.c (.int .i64 0))), false), (oL 218 1 217, false), (oC 219 59 [(.t 214), (.t 218), (.c (.bool false))], false), (oB 220 .add (.c (.str [60, 60])) (.t 219), false), (oB 221 .add (.t 220) (.c (.str [62, 62, 95])), false), (oA 222 1 2, false), (oF 223 4 5, false), (oL 224 1 223, false), (oR 225 (.idx 1 (.t 224) (.c (.int .i64 1))), false), (oL 226 1 225, false), (oC 227 158 [(.t 222), (.t 226)], false)] [oB 228 .add (.t 221) (.t 227), oM 4 228]) .ret) (.seq (.ops [oB 230 .eql (.t 17) (.c (.int .i64 27)), oM 229 230]) (.cond (.t 229) (.seq (.par [(oA 231 1 2, false), (oF 232 4 5, false), (oL 233 1 232, false), (oR 234 (.idx 1 (.t 233) (.c (.int .i64 1))), false), (oL 235 1 234, false), (oC 236 158 [(.t 231), (.t 235)], false), (oB 237 .add (.c (.str [87, 70, 95])) (.t 236), false), (oB 238 .add (.t 237) (.c (.str [40])), false), (oA 239 1 2, false), (oF 240 4 5, false), (oL 241 1 240, false), (oR 242 (.idx 1 (.t 241) (.c (.int .i64 0))), false), (oL 243 1 242, false), (oC 244 59 [(.t 239), (.t 243), (.c (.bool false))], false)] [oB 245 .add (.t 238) (.t 244), oB 246 .add (.t 245) (.c (.str [41])), oM 4 246]) .ret) (.seq (.ops [oB 248 .eql (.t 17) (.c (.int .i64 28)), oM 247 248]) (.cond (.t 247) (.seq (.par [(oA 249 1 2, false), (oF 250 4 5, false), (oL 251 1 250, false), (oR 252 (.idx 1 (.t 251) (.c (.int .i64 1))), false), (oL 253 1 252, false), (oC 254 158 [(.t 249), (.t 253)], false), (oB 255 .add (.c (.str [83, 70, 95])) (.t 254), false), (oB 256 .add (.t 255) (.c (.str [40])), false), (oA 257 1 2, false), (oF 258 4 5, false), (oL 259 1 258, false), (oR 260 (.idx 1 (.t 259) (.c (.int .i64 0))), false), (oL 261 1 260, false), (oC 262 59 [(.t 257), (.t 261), (.c (.bool false))], false)] [oB 263 .add (.t 256) (.t 262), oB 264 .add (.t 263) (.c (.str [41])), oM 4 264]) .ret) .skip)))))))))))))))))))))))))))))))))))))))))) (.seq (.ops [oA 265 1 2, oA 266 5 5, oC 267 159 [(.t 265), (.t 266)], oM 4 267]) .ret)))))
theorem ok102 : FnOk Tryz.prog dc false 102 268 [(.tmp 4)] ac102 := ⟨by kernel_rfl, _, _, Tryz.func102, rfl, by kernel_rfl, rfl, by kernel_rfl, by kernel_rfl⟩
def ac111_b0 : AC := (.seq (.ops [oB 9 .lss (.t 8) (.t 7)]) (.seq (.cond (.t 9) .skip (.exit 0)) (.seq (.block 1 (.seq (.ops [oM 10 8, oM 5 10]) (.seq (.ops [oM 11 1, oM 12 0, oM 13 5, oX 14 7 12 13, oA 15 7 14, ⟨(some 16), (.call (.t 11) [(.t 15)]), none⟩]) (.cond (.t 16) (.seq (.ops [oM 17 5, oM 4 17]) .ret) .skip)))) (.ops [oB 18 .add (.t 8) (.c (.int .i64 1)), oM 8 18]))))
def ac111 : AC := (.seq (.ops [oI 4 0]) (.seq (.seq (.ops [oM 6 0, oN 7 6, oI 8 0]) (.block 0 (.loop ac111_b0))) (.seq (.ops [oI 4 (-1)]) .ret)))
theorem ok111 : FnOk Tryz.prog dc false 111 19 [(.tmp 4)] ac111 := ⟨by kernel_rfl, _, _, Tryz.func111, rfl, by kernel_rfl, rfl, by kernel_rfl, by kernel_rfl⟩
def ac112 : AC := (.seq (.ops [⟨(some 2), (.d (.box 7 (.t 0))), none⟩, oR 3 (.mov (.c (.bool false)))]) (.seq (.ops [oF 4 0 2, oL 5 1 4, oL 6 1 1, oB 7 .eql (.t 5) (.t 6), oM 3 7]) .ret))
theorem ok112 : FnOk Tryz.prog dc false 112 8 [(.tmp 3)] ac112 := ⟨by kernel_rfl, _, _, Tryz.func112, rfl, by kernel_rfl, rfl, by kernel_rfl, by kernel_rfl⟩
def ac113_b0 : AC := (.seq (.ops [oB 13 .lss (.t 12) (.t 11)]) (.seq (.cond (.t 13) .skip (.exit 0)) (.seq (.block 1 (.seq (.ops [oX 14 1 10 12, oL 15 1 14, oM 9 15]) (.ops [oM 16 7, oM 17 9, oM 18 0, oM 19 1, oR 20 (.build [(.str []), (.int .i64 0), (.int .i64 0), (.int .i64 0), (.bool false), (.int .i64 0), (.int .i64 0)] [(0, (1, (.t 17))), (1, (1, (.c (.int .i64 0)))), (2, (1, (.t 18))), (3, (1, (.t 19))), (5, (1, (.c (.int .i64 1)))), (6, (1, (.c (.int .i64 1))))]), oR 21 (.bsl 7 [(.t 20)]), ⟨(some 22), (.d (.app 7 64 (.t 16) (.t 21))), none⟩, oM 7 22]))) (.ops [oB 23 .add (.t 12) (.c (.int .i64 1)), oM 12 23]))))
def ac113 : AC := (.seq (.ops [oR 6 (.mov (.c (.isl [] .nil)))]) (.seq (.ops [oR 7 (.mov (.c (.isl [] .nil)))]) (.seq (.seq (.ops [oM 10 2, oN 11 10, oI 12 0]) (.block 0 (.loop ac113_b0))) (.seq (.ops [oM 24 7, oM 6 24]) .ret))))
theorem ok113 : FnOk Tryz.prog dc false 113 25 [(.tmp 6)] ac113 := ⟨by kernel_rfl, _, _, Tryz.func113, rfl, by kernel_rfl, rfl, by kernel_rfl, by kernel_rfl⟩
def ac114_b0 : AC := (.seq (.ops [oB 15 .lss (.t 14) (.t 13)]) (.seq (.cond (.t 15) .skip (.exit 0)) (.seq (.block 1 (.seq (.ops [oX 16 1 12 14, oL 17 1 16, oM 11 17]) (.ops [oM 18 9, oM 19 11, oM 20 0, oM 21 1, oM 22 2, oR 23 (.build [(.str []), (.int .i64 0), (.int .i64 0), (.int .i64 0), (.bool false), (.int .i64 0), (.int .i64 0)] [(0, (1, (.t 19))), (1, (1, (.c (.int .i64 1)))), (2, (1, (.t 20))), (3, (1, (.t 21))), (4, (1, (.t 22))), (5, (1, (.c (.int .i64 2)))), (6, (1, (.c (.int .i64 2))))]), oR 24 (.bsl 7 [(.t 23)]), ⟨(some 25), (.d (.app 7 64 (.t 18) (.t 24))), none⟩, oM 9 25]))) (.ops [oB 26 .add (.t 14) (.c (.int .i64 1)), oM 14 26]))))
def ac114 : AC := (.seq (.ops [oR 8 (.mov (.c (.isl [] .nil)))]) (.seq (.ops [oR 9 (.mov (.c (.isl [] .nil)))]) (.seq (.seq (.ops [oM 12 3, oN 13 12, oI 14 0]) (.block 0 (.loop ac114_b0))) (.seq (.ops [oM 27 9, oM 8 27]) .ret))))
theorem ok114 : FnOk Tryz.prog dc false 114 28 [(.tmp 8)] ac114 := ⟨by kernel_rfl, _, _, Tryz.func114, rfl, by kernel_rfl, rfl, by kernel_rfl, by kernel_rfl⟩
def ac115_b0 : AC := (.seq (.ops [oB 12 .lss (.t 11) (.t 10)]) (.seq (.cond (.t 12) .skip (.exit 0)) (.seq (.block 1 (.seq (.ops [oX 13 1 9 11, oL 14 1 13, oM 5 14]) (.seq (.ops [oM 15 3, oM 16 5, oN 17 16, oB 18 .add (.t 15) (.t 17), oM 3 18]) (.seq (.ops [oM 19 3, oB 20 .lss (.t 19) (.c (.int .i64 0))]) (.cond (.t 20) (.ops [oR 21 (.mkif 9 (.c (.str [108, 101, 110, 32, 111, 117, 116, 32, 111, 102, 32, 114, 97, 110, 103, 101]))), ⟨none, .bad, none⟩]) .skip))))) (.ops [oB 22 .add (.t 11) (.c (.int .i64 1)), oM 11 22]))))
def ac115_b1 : AC := (.seq (.ops [oB 28 .lss (.t 27) (.t 26)]) (.seq (.cond (.t 28) .skip (.exit 2)) (.seq (.block 3 (.seq (.ops [oX 29 1 25 27, oL 30 1 29, oM 8 30]) (.ops [oM 31 6, oM 32 8, ⟨(some 33), (.n (.app 7 64 (.t 31) (.t 32))), none⟩, oM 6 33]))) (.ops [oB 34 .add (.t 27) (.c (.int .i64 1)), oM 27 34]))))
def ac115 : AC := (.seq (.ops [oR 2 (.mov (.c (.isl [] .nil)))]) (.seq (.ops [oI 3 0]) (.seq (.seq (.ops [oM 9 0, oN 10 9, oI 11 0]) (.block 0 (.loop ac115_b0))) (.seq (.ops [oM 23 3, oC 24 167 [(.c (.isl [] .nil)), (.t 23)], oM 6 24]) (.seq (.seq (.ops [oM 25 0, oN 26 25, oI 27 0]) (.block 2 (.loop ac115_b1))) (.seq (.ops [oM 35 6, oM 2 35]) .ret))))))
theorem ok115 : FnOk Tryz.prog dc true 115 36 [(.tmp 2)] ac115 := ⟨by kernel_rfl, _, _, Tryz.func115, rfl, by kernel_rfl, rfl, by kernel_rfl, by kernel_rfl⟩
def ac118 : AC := (.seq (.ops [oL 6 1 2, oM 7 0, oX 8 5 6 7, oA 9 5 8, oC 10 80 [(.t 9)], oM 11 10, oMg 12 1 11 true, oLg 13 1 2 11 true, oMg 14 0 11 true, oRg 15 (.idx 5 (.t 13) (.t 14)) 11 true, oFg 16 2 15 11 true, oLg 17 1 16 11 true, oCg 18 81 [(.t 12), (.t 17)] 11 true, oRg 19 (.not (.t 18)) 11 true, oR 20 (.pick (.t 11) (.t 19) (.c (.bool false)))]) (.cond (.t 20) (.par [(oL 21 1 3, false), (oL 22 1 2, false), (oM 23 0, false), (oX 24 5 22 23, false), (oF 25 2 24, false), (oL 26 1 25, false), (oR 27 (.bsl 1 [(.t 26)]), false)] [⟨(some 28), (.n (.app 1 16 (.t 21) (.t 27))), none⟩, oS 1 3 28]) .skip))
theorem ok118 : FnOk Tryz.prog dc true 118 29 [] ac118 := ⟨by kernel_rfl, _, _, Tryz.func118, rfl, by kernel_rfl, rfl, by kernel_rfl, by kernel_rfl⟩
def ac120 : AC := (.seq (.ops [oR 2 (.mov (.c (.isl [] .nil)))]) (.seq (.ops [oM 3 0, oM 4 0, oN 5 4, oM 6 0, oN 7 6, oR 8 (.slc 1 (.t 3) none (some (.t 5)) (some (.t 7))), oM 2 8]) .ret))
theorem ok120 : FnOk Tryz.prog dc false 120 9 [(.tmp 2)] ac120 := ⟨by kernel_rfl, _, _, Tryz.func120, rfl, by kernel_rfl, rfl, by kernel_rfl, by kernel_rfl⟩
def ac121_j0 : AC := (.seq (.ops [oB 15 .eql (.t 13) (.c (.int .i64 6)), oM 14 15]) (.cond (.t 14) .skip (.seq (.ops [oB 16 .eql (.t 13) (.c (.int .i64 12)), oM 14 16]) (.cond (.t 14) .skip (.seq (.ops [oB 17 .eql (.t 13) (.c (.int .i64 7)), oM 14 17]) (.cond (.t 14) .skip (.seq (.ops [oB 18 .eql (.t 13) (.c (.int .i64 8)), oM 14 18]) (.cond (.t 14) .skip (.seq (.ops [oB 19 .eql (.t 13) (.c (.int .i64 9)), oM 14 19]) (.cond (.t 14) .skip (.seq (.ops [oB 20 .eql (.t 13) (.c (.int .i64 13)), oM 14 20]) (.cond (.t 14) .skip (.seq (.ops [oB 21 .eql (.t 13) (.c (.int .i64 10)), oM 14 21]) (.cond (.t 14) .skip (.seq (.ops [oB 22 .eql (.t 13) (.c (.int .i64 11)), oM 14 22]) (.cond (.t 14) .skip (.ops [oB 23 .eql (.t 13) (.c (.int .i64 24)), oM 14 23])))))))))))))))))
def ac121 : AC := (.seq (.ops [⟨(some 2), (.d (.box 5 (.t 0))), none⟩, oR 4 (.mov (.c (.isl [] .nil)))]) (.seq (.ops [oM 6 1, oF 7 4 2, oL 8 1 7, oN 9 8, oB 10 .sub (.t 9) (.c (.int .i64 1)), oB 11 .eql (.t 6) (.t 10), oM 5 11]) (.seq (.seq (.ops [oF 12 0 2, oL 13 1 12]) (.block 0 (.seq ac121_j0 (.cond (.t 14) (.seq (.ops [oM 24 5]) (.cond (.t 24) (.seq (.ops [oF 25 3 2, oL 26 1 25, oM 4 26]) .ret) .skip)) (.seq (.ops [oB 28 .eql (.t 13) (.c (.int .i64 23)), oM 27 28]) (.cond (.t 27) (.seq (.block 1 (.seq (.ops [oM 30 5, oM 29 30]) (.cond (.t 29) (.seq (.ops [oF 31 3 2, oL 32 1 31, oR 33 (.slc 1 (.t 32) none (some (.c (.int .i64 1))) none), oM 4 33]) .ret) (.seq (.ops [oF 35 1 2, oL 36 1 35, oB 37 .eql (.t 36) (.c (.int .i64 1)), oM 34 37]) (.cond (.t 34) (.seq (.ops [oF 38 3 2, oL 39 1 38, oM 4 39]) .ret) .skip))))) (.seq (.ops [oF 40 3 2, oL 41 1 40, oR 42 (.slc 1 (.t 41) (some (.c (.int .i64 1))) none none), oM 4 42]) .ret)) .skip)))))) (.seq (.ops [oR 4 (.mov (.c (.isl [] .nil)))]) .ret))))
theorem ok121 : FnOk Tryz.prog dc false 121 43 [(.tmp 4)] ac121 := ⟨by kernel_rfl, _, _, Tryz.func121, rfl, by kernel_rfl, rfl, by kernel_rfl, by kernel_rfl⟩
def ac125 : AC := (.seq (.ops [oR 4 (.mov (.c (.bool false)))]) (.seq (.ops [oM 5 0, oM 6 1, oC 7 179 [(.t 5), (.t 6)], oM 4 7]) .ret))
theorem ok125 : FnOk Tryz.prog dc false 125 8 [(.tmp 4)] ac125 := ⟨by kernel_rfl, _, _, Tryz.func125, rfl, by kernel_rfl, rfl, by kernel_rfl, by kernel_rfl⟩
def ac126 : AC := (.seq (.ops [oR 0 (.mov (.c (.isl [] .nil)))]) (.seq (.ops [oC 1 180 [(.c (.str [65, 83, 83, 85, 77, 69, 32, 65, 83, 83, 85, 77, 80, 84, 73, 79, 78, 32, 65, 88, 73, 79, 77, 32, 66, 89, 32, 67, 65, 83, 69, 32, 67, 72, 79, 79, 83, 69, 32, 67, 79, 78, 83, 84, 65, 78, 84, 32, 67, 79, 78, 83, 84, 65, 78, 84, 83, 32, 68, 69, 70, 32, 68, 69, 70, 73, 78, 69, 32, 68, 69, 70, 83, 32, 68, 79, 77, 65, 73, 78, 32, 69, 76, 83, 69, 32, 69, 78, 65, 66, 76, 69, 68, 32, 69, 88, 67, 69, 80, 84, 32, 69, 88, 84, 69, 78, 68, 83, 32, 70, 65, 76, 83, 69, 32, 72, 65, 86, 69, 32, 72, 73, 68, 69, 32, 73, 70, 32, 73, 78, 32, 73, 78, 83, 84, 65, 78, 67, 69, 32, 76, 65, 77, 66, 68, 65, 32, 76, 69, 77, 77, 65, 32, 76, 69, 84, 32, 76, 79, 67, 65, 76, 32, 77, 79, 68, 85, 76, 69, 32, 78, 69, 87, 32, 79, 66, 86, 73, 79, 85, 83, 32, 79, 77, 73, 84, 84, 69, 68, 32, 79, 84, 72, 69, 82, 32, 80, 73, 67, 75, 32, 80, 82, 79, 79, 70, 32, 80, 82, 79, 80, 79, 83, 73, 84, 73, 79, 78, 32, 80, 82, 79, 86, 69, 32, 81, 69, 68, 32, 82, 69, 67, 85, 82, 83, 73, 86, 69, 32, 83, 85, 66, 83, 69, 84, 32, 83, 85, 70, 70, 73, 67, 69, 83, 32, 84, 65, 75, 69, 32, 84, 72, 69, 78, 32, 84, 72, 69, 79, 82, 69, 77, 32, 84, 82, 85, 69, 32, 85, 78, 67, 72, 65, 78, 71, 69, 68, 32, 85, 78, 73, 79, 78, 32, 85, 83, 69, 32, 86, 65, 82, 73, 65, 66, 76, 69, 32, 86, 65, 82, 73, 65, 66, 76, 69, 83, 32, 87, 73, 84, 72, 32, 87, 73, 84, 78, 69, 83, 83, 32, 66, 79, 79, 76, 69, 65, 78, 32, 83, 84, 82, 73, 78, 71]))], oM 0 1]) .ret))
theorem ok126 : FnOk Tryz.prog dc false 126 2 [(.tmp 0)] ac126 := ⟨by kernel_rfl, _, _, Tryz.func126, rfl, by kernel_rfl, rfl, by kernel_rfl, by kernel_rfl⟩
def ac129 : AC := (.seq (.ops [oR 2 (.mov (.c (.bool false)))]) (.seq (.ops [oM 3 0, oB 4 .eql (.t 3) (.c (.str [84, 82, 85, 69])), oM 5 4, oMg 6 0 5 false, oBg 7 .eql (.t 6) (.c (.str [70, 65, 76, 83, 69])) 5 false, oR 8 (.pick (.t 5) (.c (.bool true)) (.t 7)), oM 9 8, oMg 10 0 9 false, oBg 11 .eql (.t 10) (.c (.str [66, 79, 79, 76, 69, 65, 78])) 9 false, oR 12 (.pick (.t 9) (.c (.bool true)) (.t 11)), oM 13 12, oMg 14 0 13 false, oBg 15 .eql (.t 14) (.c (.str [83, 84, 82, 73, 78, 71])) 13 false, oR 16 (.pick (.t 13) (.c (.bool true)) (.t 15)), oM 2 16]) .ret))
theorem ok129 : FnOk Tryz.prog dc false 129 17 [(.tmp 2)] ac129 := ⟨by kernel_rfl, _, _, Tryz.func129, rfl, by kernel_rfl, rfl, by kernel_rfl, by kernel_rfl⟩
def ac130_b0 : AC := (.seq (.ops [oB 9 .lss (.t 8) (.t 7)]) (.seq (.cond (.t 9) .skip (.exit 0)) (.seq (.block 1 (.seq (.ops [oM 10 8, oM 5 10]) (.seq (.ops [oM 11 1, oM 12 0, oM 13 5, oX 14 1 12 13, oL 15 1 14, oB 16 .eql (.t 11) (.t 15)]) (.cond (.t 16) (.seq (.ops [oM 17 5, oM 4 17]) .ret) .skip)))) (.ops [oB 18 .add (.t 8) (.c (.int .i64 1)), oM 8 18]))))
def ac130 : AC := (.seq (.ops [oI 4 0]) (.seq (.seq (.ops [oM 6 0, oN 7 6, oI 8 0]) (.block 0 (.loop ac130_b0))) (.seq (.ops [oI 4 (-1)]) .ret)))
theorem ok130 : FnOk Tryz.prog dc false 130 19 [(.tmp 4)] ac130 := ⟨by kernel_rfl, _, _, Tryz.func130, rfl, by kernel_rfl, rfl, by kernel_rfl, by kernel_rfl⟩
def ac140 : AC := (.seq (.ops [⟨(some 4), (.d (.alloc [(.int .i64 0), (.int .i64 0), (.int .i64 0), (.int .i64 0), (.bool false), (.bool false)])), none⟩]) (.seq (.ops [oM 5 0, oM 6 0, ⟨(some 7), (.n (.barr [(.int .i64 0), (.int .i64 0)] [(0, (1, (.t 5))), (1, (1, (.t 6)))])), none⟩, oM 8 1, oM 9 1, ⟨(some 10), (.n (.barr [(.int .i64 0), (.int .i64 0)] [(0, (1, (.t 8))), (1, (1, (.t 9)))])), none⟩, oR 11 (.build [(.int .i64 0), (.int .i64 0), (.int .i64 0), (.int .i64 0), (.bool false), (.bool false)] [(0, (2, (.t 7))), (2, (2, (.t 10)))]), oS 6 4 11]) .ret))
theorem ok140 : FnOk Tryz.prog dc false 140 12 [(.cell 4 6 true)] ac140 := ⟨by kernel_rfl, _, _, Tryz.func140, rfl, by kernel_rfl, rfl, by kernel_rfl, by kernel_rfl⟩
def ac142 : AC := (.seq (.ops [oR 2 (.mov (.c (.bool false)))]) (.seq (.ops [oM 3 0, oR 4 (.conv .i64 (.t 3)), oC 5 69 [(.t 4), (.c (.int .i64 32)), (.c (.int .i64 126))], oR 6 (.not (.t 5)), oM 7 6, oMg 8 0 7 false, oBg 9 .eql (.t 8) (.c (.int .i32 34)) 7 false, oR 10 (.pick (.t 7) (.c (.bool true)) (.t 9)), oM 11 10, oMg 12 0 11 false, oBg 13 .eql (.t 12) (.c (.int .i32 92)) 11 false, oR 14 (.pick (.t 11) (.c (.bool true)) (.t 13)), oM 2 14]) .ret))
theorem ok142 : FnOk Tryz.prog dc false 142 15 [(.tmp 2)] ac142 := ⟨by kernel_rfl, _, _, Tryz.func142, rfl, by kernel_rfl, rfl, by kernel_rfl, by kernel_rfl⟩
def ac144 : AC := (.seq (.ops [oR 4 (.mov (.c (.bool false)))]) (.seq (.ops [oM 5 0, oM 6 1, oC 7 186 [(.t 5), (.t 6)], oB 8 .geq (.t 7) (.c (.int .i64 0)), oM 4 8]) .ret))
theorem ok144 : FnOk Tryz.prog dc false 144 9 [(.tmp 4)] ac144 := ⟨by kernel_rfl, _, _, Tryz.func144, rfl, by kernel_rfl, rfl, by kernel_rfl, by kernel_rfl⟩
def ac145 : AC := (.seq (.ops [oR 2 (.mov (.c (.bool false)))]) (.seq (.ops [oM 3 0, oC 4 77 [(.t 3)], oR 5 (.not (.t 4)), oM 2 5]) .ret))
theorem ok145 : FnOk Tryz.prog dc false 145 6 [(.tmp 2)] ac145 := ⟨by kernel_rfl, _, _, Tryz.func145, rfl, by kernel_rfl, rfl, by kernel_rfl, by kernel_rfl⟩
def ac146 : AC := (.seq (.ops [oR 2 (.mov (.c (.bool false)))]) (.seq (.seq (.ops [oM 6 0, oR 7 (.slen (.t 6)), oB 8 .gtr (.t 7) (.c (.int .i64 49))]) (.cond (.t 8) (.seq (.ops [oR 2 (.mov (.c (.bool false)))]) .ret) .skip)) (.seq (.ops [oM 10 0, oC 11 187 [(.t 10), (.c (.str [33]))], oM 9 11, oE 12 9 0, oE 13 9 1, oE 14 9 2, oM 3 12, oM 4 13, oM 5 14]) (.seq (.ops [oM 15 3, oC 16 77 [(.t 15)], oM 17 16, oMg 18 5 17 true, oRg 19 (.not (.t 18)) 17 true, oMg 20 19 17 true, oMg 21 4 20 false, oCg 22 77 [(.t 21)] 20 false, oRg 23 (.pick (.t 20) (.c (.bool true)) (.t 22)) 17 true, oR 24 (.pick (.t 17) (.t 23) (.c (.bool false))), oM 2 24]) .ret))))
theorem ok146 : FnOk Tryz.prog dc false 146 25 [(.tmp 2)] ac146 := ⟨by kernel_rfl, _, _, Tryz.func146, rfl, by kernel_rfl, rfl, by kernel_rfl, by kernel_rfl⟩
def ac147 : AC := (.seq (.ops [oR 4 (.mov (.c (.int .u64 0))), oR 5 (.mov (.c (.int .u64 0)))]) (.seq (.cond (.c (.bool false)) (.seq (.ops [oM 11 0, oR 12 (.conv .u32 (.t 11)), oM 13 1, oR 14 (.conv .u32 (.t 13)), oC 15 188 [(.t 12), (.t 14)], oM 10 15, oE 16 10 0, oE 17 10 1, oM 6 16, oM 7 17]) (.seq (.ops [oM 18 6, oR 19 (.conv .u64 (.t 18)), oM 20 7, oR 21 (.conv .u64 (.t 20)), oM 4 19, oM 5 21]) .ret)) .skip) (.seq (.ops [oM 23 0, oM 24 1, oC 25 189 [(.t 23), (.t 24)], oM 22 25, oE 26 22 0, oE 27 22 1, oM 8 26, oM 9 27]) (.seq (.ops [oM 28 8, oM 29 9, oM 4 28, oM 5 29]) .ret))))
theorem ok147 : FnOk Tryz.prog dc false 147 30 [(.tmp 4), (.tmp 5)] ac147 := ⟨by kernel_rfl, _, _, Tryz.func147, rfl, by kernel_rfl, rfl, by kernel_rfl, by kernel_rfl⟩
def ac149 : AC := (.seq (.ops [oR 4 (.mov (.c (.bool false)))]) (.seq (.ops [oM 5 0, oM 6 1, oC 7 190 [(.t 5), (.t 6)], oB 8 .geq (.t 7) (.c (.int .i64 0)), oM 4 8]) .ret))
theorem ok149 : FnOk Tryz.prog dc false 149 9 [(.tmp 4)] ac149 := ⟨by kernel_rfl, _, _, Tryz.func149, rfl, by kernel_rfl, rfl, by kernel_rfl, by kernel_rfl⟩
def ac150 : AC := (.seq (.ops [⟨(some 4), (.d (.box 1 (.t 0))), none⟩, oR 8 (.mov (.c (.str [])))]) (.seq (.seq (.ops [oM 9 2]) (.cond (.t 9) (.seq (.ops [oA 10 1 4, oM 11 1, oC 12 99 [(.t 10), (.t 11)], oM 8 12]) .ret) .skip)) (.seq (.ops [oA 13 1 4, oM 14 1, oM 15 3, oC 16 59 [(.t 13), (.t 14), (.t 15)], oM 8 16]) .ret)))
theorem ok150 : FnOk Tryz.prog dc false 150 17 [(.tmp 8)] ac150 := ⟨by kernel_rfl, _, _, Tryz.func150, rfl, by kernel_rfl, rfl, by kernel_rfl, by kernel_rfl⟩
end Go.VL
end
section
set_option maxRecDepth 100000
namespace Go.VL
open Go.Proofs
def ac179 : AC := (.seq (.ops [oR 4 (.mov (.c (.bool false)))]) (.seq (.ops [oM 5 0, oR 6 (.slen (.t 5)), oM 7 1, oR 8 (.slen (.t 7)), oB 9 .geq (.t 6) (.t 8), oM 10 9, oMg 11 0 10 true, oMg 12 1 10 true, oRg 13 (.slen (.t 12)) 10 true, oRg 14 (.sslc (.t 11) none (some (.t 13))) 10 true, oMg 15 1 10 true, oBg 16 .eql (.t 14) (.t 15) 10 true, oR 17 (.pick (.t 10) (.t 16) (.c (.bool false))), oM 4 17]) .ret))
theorem ok179 : FnOk Tryz.prog dc false 179 18 [(.tmp 4)] ac179 := ⟨by kernel_rfl, _, _, Tryz.func179, rfl, by kernel_rfl, rfl, by kernel_rfl, by kernel_rfl⟩
def ac180_b0 : AC := (.seq (.seq (.ops [oM 13 6, oM 14 0, oR 15 (.slen (.t 14)), oB 16 .lss (.t 13) (.t 15)]) (.cond (.t 16) .skip (.exit 0))) (.seq (.block 1 (.seq (.ops [oM 19 0, oM 20 6, oR 21 (.sidx (.t 19) (.t 20)), oM 7 21]) (.seq (.ops [oM 22 5, oM 23 7, oB 24 .or (.t 22) (.t 23), oM 5 24]) (.seq (.ops [oM 25 7, oR 26 (.aidx 256 1 (.c (.iptr (tab0.map (PV.int .u8)) 0)) (.t 25)), oL 27 1 26, oR 28 (.conv .i64 (.t 27)), oM 8 28]) (.seq (.ops [oM 29 3, oM 30 4, oM 31 8, oR 32 (.cpl (.t 31)), oB 33 .and (.t 30) (.t 32), oB 34 .add (.t 29) (.t 33), oM 3 34]) (.ops [oM 35 8, oM 4 35])))))) (.ops [oM 17 6, oB 18 .add (.t 17) (.c (.int .i64 1)), oM 6 18])))
def ac180_b1 : AC := (.seq (.seq (.ops [oM 42 12, oM 43 0, oR 44 (.slen (.t 43)), oB 45 .lss (.t 42) (.t 44), oM 46 45, oMg 47 0 46 true, oMg 48 12 46 true, oRg 49 (.sidx (.t 47) (.t 48)) 46 true, oRg 50 (.aidx 256 1 (.c (.iptr (tab0.map (PV.int .u8)) 0)) (.t 49)) 46 true, oLg 51 1 50 46 true, oBg 52 .neq (.t 51) (.c (.int .u8 0)) 46 true, oR 53 (.pick (.t 46) (.t 52) (.c (.bool false)))]) (.cond (.t 53) .skip (.exit 2))) (.block 3 (.ops [oM 54 12, oB 55 .add (.t 54) (.c (.int .i64 1)), oM 12 55])))
def ac180_b2 : AC := (.seq (.seq (.ops [oM 80 12, oM 81 0, oR 82 (.slen (.t 81)), oB 83 .lss (.t 80) (.t 82), oM 84 83, oMg 85 0 84 true, oMg 86 12 84 true, oRg 87 (.sidx (.t 85) (.t 86)) 84 true, oRg 88 (.aidx 256 1 (.c (.iptr (tab0.map (PV.int .u8)) 0)) (.t 87)) 84 true, oLg 89 1 88 84 true, oBg 90 .neq (.t 89) (.c (.int .u8 0)) 84 true, oR 91 (.pick (.t 84) (.t 90) (.c (.bool false)))]) (.cond (.t 91) .skip (.exit 6))) (.block 7 (.ops [oM 92 12, oB 93 .add (.t 92) (.c (.int .i64 1)), oM 12 93])))
def ac180_b3 : AC := (.seq (.seq (.ops [oM 57 12, oM 58 0, oR 59 (.slen (.t 58)), oB 60 .lss (.t 57) (.t 59)]) (.cond (.t 60) .skip (.exit 4))) (.block 5 (.seq (.seq (.ops [oM 61 0, oM 62 12, oR 63 (.sidx (.t 61) (.t 62)), oR 64 (.aidx 256 1 (.c (.iptr (tab0.map (PV.int .u8)) 0)) (.t 63)), oL 65 1 64, oB 66 .eql (.t 65) (.c (.int .u8 0))]) (.cond (.t 66) (.seq (.ops [oM 67 12, oB 68 .add (.t 67) (.c (.int .i64 1)), oM 12 68]) (.exit 5)) .skip)) (.seq (.ops [oM 69 9, oM 70 10, oM 71 0, oM 72 11, oM 73 12, oR 74 (.sslc (.t 71) (some (.t 72)) (some (.t 73))), oX 75 1 69 70, oS 1 75 74]) (.seq (.ops [oM 76 10, oB 77 .add (.t 76) (.c (.int .i64 1)), oM 10 77]) (.seq (.ops [oM 78 12, oB 79 .add (.t 78) (.c (.int .i64 1)), oM 12 79]) (.seq (.block 6 (.loop ac180_b2)) (.ops [oM 94 12, oM 11 94]))))))))
def ac180 : AC := (.seq (.ops [oR 2 (.mov (.c (.isl [] .nil)))]) (.seq (.ops [oI 3 0]) (.seq (.ops [oI 4 1]) (.seq (.ops [oR 5 (.mov (.c (.int .u8 0)))]) (.seq (.seq (.ops [oI 6 0]) (.block 0 (.loop ac180_b0))) (.seq (.seq (.ops [oM 36 5, oB 37 .geq (.t 36) (.c (.int .u8 128))]) (.cond (.t 37) (.seq (.ops [oM 38 0, oC 39 203 [(.t 38), (.c (.fn (.func 204) [] []))], oM 2 39]) .ret) .skip)) (.seq (.ops [oM 40 3, ⟨(some 41), (.d (.mksl 1 16 [(.str [])] (.t 40) (.t 40))), none⟩, oM 9 41]) (.seq (.ops [oI 10 0]) (.seq (.ops [oI 11 0]) (.seq (.ops [oI 12 0]) (.seq (.block 2 (.loop ac180_b1)) (.seq (.ops [oM 56 12, oM 11 56]) (.seq (.block 4 (.loop ac180_b3)) (.seq (.seq (.ops [oM 95 11, oM 96 0, oR 97 (.slen (.t 96)), oB 98 .lss (.t 95) (.t 97)]) (.cond (.t 98) (.ops [oM 99 9, oM 100 10, oM 101 0, oM 102 11, oR 103 (.sslc (.t 101) (some (.t 102)) none), oX 104 1 99 100, oS 1 104 103]) .skip)) (.seq (.ops [oM 105 9, oM 2 105]) .ret)))))))))))))))
theorem ok180 : FnOk Tryz.prog dc false 180 106 [(.tmp 2)] ac180 := ⟨by kernel_rfl, _, _, Tryz.func180, rfl, by kernel_rfl, rfl, by kernel_rfl, by kernel_rfl⟩
def ac186_b0 : AC := (.seq (.ops [oB 9 .lss (.t 8) (.t 7)]) (.seq (.cond (.t 9) .skip (.exit 0)) (.seq (.block 1 (.seq (.ops [oM 10 8, oM 5 10]) (.seq (.ops [oM 11 1, oM 12 0, oM 13 5, oX 14 1 12 13, oL 15 1 14, ⟨(some 16), (.call (.t 11) [(.t 15)]), none⟩]) (.cond (.t 16) (.seq (.ops [oM 17 5, oM 4 17]) .ret) .skip)))) (.ops [oB 18 .add (.t 8) (.c (.int .i64 1)), oM 8 18]))))
def ac186 : AC := (.seq (.ops [oI 4 0]) (.seq (.seq (.ops [oM 6 0, oN 7 6, oI 8 0]) (.block 0 (.loop ac186_b0))) (.seq (.ops [oI 4 (-1)]) .ret)))
theorem ok186 : FnOk Tryz.prog dc false 186 19 [(.tmp 4)] ac186 := ⟨by kernel_rfl, _, _, Tryz.func186, rfl, by kernel_rfl, rfl, by kernel_rfl, by kernel_rfl⟩
def ac187 : AC := (.seq (.ops [oR 4 (.mov (.c (.str []))), oR 5 (.mov (.c (.str []))), oR 6 (.mov (.c (.bool false)))]) (.seq (.ops [oM 7 0, oM 8 1, oC 9 207 [(.t 7), (.t 8)], oE 10 9 0, oE 11 9 1, oE 12 9 2, oM 4 10, oM 5 11, oM 6 12]) .ret))
theorem ok187 : FnOk Tryz.prog dc false 187 13 [(.tmp 4), (.tmp 5), (.tmp 6)] ac187 := ⟨by kernel_rfl, _, _, Tryz.func187, rfl, by kernel_rfl, rfl, by kernel_rfl, by kernel_rfl⟩
def ac190_b0 : AC := (.seq (.ops [oB 9 .lss (.t 8) (.t 7)]) (.seq (.cond (.t 9) .skip (.exit 0)) (.seq (.block 1 (.seq (.ops [oM 10 8, oM 5 10]) (.seq (.ops [oM 11 1, oM 12 0, oM 13 5, oX 14 1 12 13, oL 15 1 14, oB 16 .eql (.t 11) (.t 15)]) (.cond (.t 16) (.seq (.ops [oM 17 5, oM 4 17]) .ret) .skip)))) (.ops [oB 18 .add (.t 8) (.c (.int .i64 1)), oM 8 18]))))
def ac190 : AC := (.seq (.ops [oI 4 0]) (.seq (.seq (.ops [oM 6 0, oN 7 6, oI 8 0]) (.block 0 (.loop ac190_b0))) (.seq (.ops [oI 4 (-1)]) .ret)))
theorem ok190 : FnOk Tryz.prog dc false 190 19 [(.tmp 4)] ac190 := ⟨by kernel_rfl, _, _, Tryz.func190, rfl, by kernel_rfl, rfl, by kernel_rfl, by kernel_rfl⟩
def ac207 : AC := (.seq (.ops [oR 4 (.mov (.c (.str []))), oR 5 (.mov (.c (.str []))), oR 6 (.mov (.c (.bool false)))]) (.seq (.seq (.ops [oM 8 0, oM 9 1, oC 10 214 [(.t 8), (.t 9)], oM 7 10]) (.seq (.ops [oM 11 7, oB 12 .geq (.t 11) (.c (.int .i64 0))]) (.cond (.t 12) (.seq (.par [(oM 13 0, false), (oM 14 7, false), (oR 15 (.sslc (.t 13) none (some (.t 14))), false), (oM 16 0, false), (oM 17 7, false), (oM 18 1, false), (oR 19 (.slen (.t 18)), false), (oB 20 .add (.t 17) (.t 19), false), (oR 21 (.sslc (.t 16) (some (.t 20)) none), false), (oM 4 15, false)] [oM 5 21, oR 6 (.mov (.c (.bool true)))]) .ret) .skip))) (.seq (.ops [oM 22 0, oM 4 22, oR 5 (.mov (.c (.str []))), oR 6 (.mov (.c (.bool false)))]) .ret)))
theorem ok207 : FnOk Tryz.prog dc false 207 23 [(.tmp 4), (.tmp 5), (.tmp 6)] ac207 := ⟨by kernel_rfl, _, _, Tryz.func207, rfl, by kernel_rfl, rfl, by kernel_rfl, by kernel_rfl⟩
end Go.VL
end
section
namespace Go.VL
structure Operator where
  text : Str
  fix : Int
  low : Int
  high : Int
  left : Bool
  least : Int
  most : Int
deriving DecidableEq
def Operator.cells (x : Operator) : List PV := [(.str x.text), (.int .i64 x.fix), (.int .i64 x.low), (.int .i64 x.high), (.bool x.left), (.int .i64 x.least), (.int .i64 x.most)]
theorem Operator.cells_eq (x : Operator) : x.cells = [(.str x.text), (.int .i64 x.fix), (.int .i64 x.low), (.int .i64 x.high), (.bool x.left), (.int .i64 x.least), (.int .i64 x.most)] := rfl
theorem Operator.pu (x : Operator) : ∀ c ∈ x.cells, Pu c := PuL.mem (.cons (.str _) (.cons (.int _ _) (.cons (.int _ _) (.cons (.int _ _) (.cons (.bool _) (.cons (.int _ _) (.cons (.int _ _) .nil)))))))
theorem Operator.row (x : Operator) : rowLike 7 x.cells := row_of rfl rfl
instance : RowF Operator.cells 7 := ⟨fun _ => rfl, fun _ => rfl⟩
attribute [go_sem] Operator.cells_eq
structure Printer where
  e : List Nd
deriving DecidableEq
def Printer.cells (x : Printer) : List PV := [(.isl (x.e.map Nd.cells) .unk)]
theorem Printer.cells_eq (x : Printer) : x.cells = [(.isl (x.e.map Nd.cells) .unk)] := rfl
theorem Printer.pu (x : Printer) : ∀ c ∈ x.cells, Pu c := PuL.mem (.cons (pu_sl Nd.pu _) .nil)
attribute [go_sem] Printer.cells_eq
structure Shape where
  names : Int × Int
  operands : Int × Int
  text : Bool
  number : Bool
deriving DecidableEq
def Shape.cells (x : Shape) : List PV := [(.int .i64 x.names.1), (.int .i64 x.names.2), (.int .i64 x.operands.1), (.int .i64 x.operands.2), (.bool x.text), (.bool x.number)]
theorem Shape.cells_eq (x : Shape) : x.cells = [(.int .i64 x.names.1), (.int .i64 x.names.2), (.int .i64 x.operands.1), (.int .i64 x.operands.2), (.bool x.text), (.bool x.number)] := rfl
theorem Shape.pu (x : Shape) : ∀ c ∈ x.cells, Pu c := PuL.mem (.cons (.int _ _) (.cons (.int _ _) (.cons (.int _ _) (.cons (.int _ _) (.cons (.bool _) (.cons (.bool _) .nil))))))
attribute [go_sem] Shape.cells_eq
end Go.VL
end
section
namespace Go.VL
theorem if_E {α : Type} {p : Prop} [Decidable p] {x : Option α} {r : α} (h : (if p then x else none) = some r) : p ∧ x = some r := by
  by_cases hp : p
  · rw [if_pos hp] at h; exact ⟨hp, h⟩
  · rw [if_neg hp] at h; cases h
theorem bind_E {α β : Type} {o : Option α} {f : α → Option β} {r : β} (h : Option.bind o f = some r) : ∃ x, o = some x ∧ f x = some r := by
  cases o with
  | none => cases h
  | some x => exact ⟨x, rfl, h⟩
theorem cond_E {α : Type} {b : Bool} {x y : Option α} {r : α} (h : cond b x y = some r) : (b = true ∧ x = some r) ∨ (b = false ∧ y = some r) := by
  cases b with
  | true => exact .inl ⟨rfl, h⟩
  | false => exact .inr ⟨rfl, h⟩
end Go.VL
namespace Go.VL
theorem som_E {α : Type} {x r : α} (h : some x = some r) : x = r := Option.some.inj h
end Go.VL
namespace Go.VL
variable [Glob]
theorem PCall.lw {P : Program} {f : FuncId} {args args' : List PV} {r : PV} (hw : Lw args' args) (h : PCall P f args r) : PCall P f args' r := h.wk hw
end Go.VL
end
section
namespace Go.VL
theorem go_ {A B : Prop} (k : B) (h : A = B := by simp -implicitDefEqProofs only [go_sem, *]; rfl) : A := h ▸ k
theorem sl_ {A : Prop} (h : A := by simp -implicitDefEqProofs only [go_sem, and_self, *]) : A := h
theorem gos_ {A B : Prop} (k : B) (h : A = B := by simp -implicitDefEqProofs only [go_sem, WO_store, *]; rfl) : A := h ▸ k
theorem sls_ {A : Prop} (h : A := by simp -implicitDefEqProofs only [go_sem, WO_store, and_self, *]) : A := h
theorem fr_ {L : List Nat} {σ σ' : Nat → PV} (h : Fr L σ σ' := by repeat (first | assumption | refine Fr.upd (by decide) ?_)) : Fr L σ σ' := h
theorem om_ {p : Prop} (h : p := by first | omega | (simp only [AH.new_next, AH.put_next, AH.tok_next, AH.use_next]; omega)) : p := h
theorem ok_ {H : AH} {c : Ck} (h : okc H c := by repeat (first | assumption | exact okc.nil | exact okc.exact | apply okc.new | apply okc.put)) : okc H c := h
theorem cat_ {q p : Prop} (e : q) (h : q → p := by intro e; (try simp only [List.length_append, List.length_cons, List.length_nil] at e ⊢); omega) : p := h e
end Go.VL
end
section
set_option maxRecDepth 8000
set_option maxHeartbeats 4000000
namespace Go.VL
open Go.Proofs
def b_One (is_0 : Bool) : Option Int :=
  cond is_0 (some 1) (some 0)
theorem b_One_c {is_0 : Bool} {r : Int} (h : b_One is_0 = some r) : PCall Tryz.prog 23 [(.bool is_0)] (.int .i64 r) := by
  refine PCall.of_empty (PuL.mem (.cons (.bool _) .nil)) (MCall_of_W ok23 (by simp) (W_start ?_)) (.int _ _)
  unfold b_One at h
  unfold ac23
  rcases cond_E h with ⟨e1, h⟩ | ⟨e1, h⟩
  ·obtain rfl := som_E h
   try refine gos_ ?_
   exact (.pure _ (.int _ _))
  ·obtain rfl := som_E h
   try refine gos_ ?_
   exact (.pure _ (.int _ _))
def b_Contains_b0 : Nat → (List Str) → Str → Int → Option (Unit ⊕ Bool)
  | 0, _, _, _ => none
  | k + 1, l_0, s_1, i_5 =>
    cond (decide (i_5 < (l_0.length : Int))) (if 0 ≤ i_5 then Option.bind (l_0[i_5.toNat]?) fun x3 => cond (x3 == s_1) (some (.inr (true))) (b_Contains_b0 k l_0 s_1 (IntKind.wrap .i64 (i_5 + 1))) else none) (some (.inl ()))
def b_Contains_b0l : List Nat := [4, 5, 6, 7, 8, 9, 10, 11, 12, 13, 14, 15, 16, 17]
theorem b_Contains_b0_W : ∀ (k : Nat) (l_0 : List Str) (s_1 : Str) (i_5 : Int) (σ0 σ : Nat → PV) (H : AH) (f0 : Fr b_Contains_b0l σ0 σ) (sl : σ 0 = (.isl (l_0.map strL) .unk) ∧ σ 1 = (.str s_1) ∧ σ 5 = (.int .i64 i_5)) (o : Unit ⊕ Bool) (h : b_Contains_b0 k l_0 s_1 i_5 = some o) (Q : Post) (q0 : ∀ (p : Unit) (σ' : Nat → PV), o = .inl p → Fr b_Contains_b0l σ0 σ' → Q (.exit 0) σ' H) (q1 : ∀ (p : Bool) (σ' : Nat → PV), o = .inr (p) → Fr b_Contains_b0l σ0 σ' → (σ' 4 = (.bool p)) → Q .ret σ' H) , W Tryz.prog (.loop ac31_b0) Q σ H := by
  intro k
  induction k with
  | zero => intro l_0 s_1 i_5 σ0 σ H f0 sl o h Q q0 q1; simp only [b_Contains_b0, reduceCtorEq] at h
  | succ k ih =>
    intro l_0 s_1 i_5 σ0 σ H f0 sl o h Q q0 q1
    obtain ⟨s0, s1, s5⟩ := sl
    unfold b_Contains_b0 at h
    refine W_loopK (fun K hK => W_start ?_)
    unfold ac31_b0
    rcases cond_E h with ⟨e1, h⟩ | ⟨e1, h⟩
    ·obtain ⟨e2, h⟩ := if_E h
     obtain ⟨x3, e4, h⟩ := bind_E h
     rcases cond_E h with ⟨e5, h⟩ | ⟨e5, h⟩
     ·obtain rfl := som_E h
      try refine gos_ ?_
      exact q1 _ _ rfl fr_ sls_
     ·try refine gos_ ?_
      refine hK _ _ ?_
      exact ih l_0 s_1 (IntKind.wrap .i64 (i_5 + 1)) _ _ _ fr_ sls_ _ h _ q0 q1
    ·obtain rfl := som_E h
     try refine gos_ ?_
     exact q0 _ _ rfl fr_
def b_Contains (k : Nat) (l_0 : List Str) (s_1 : Str) : Option Bool :=
  Option.bind (b_Contains_b0 k l_0 s_1 0) (fun o => Sum.elim (fun p8 => some false) (fun p12 => some p12) o)
theorem b_Contains_c {k : Nat} {l_0 : List Str} {s_1 : Str} {c0 : Ck} {r : Bool} (h : b_Contains k l_0 s_1 = some r) : PCall Tryz.prog 31 [(.isl (l_0.map strL) c0), (.str s_1)] (.bool r) := by
  refine PCall.lw (.isl (.same .nil)) (PCall.of_empty (PuL.mem (.cons (pu_sl pu_strL _) (.cons (.str _) .nil))) (MCall_of_W ok31 (by simp) (W_start ?_)) (.bool _))
  unfold b_Contains at h
  unfold ac31
  try refine gos_ ?_
  obtain ⟨o6, h7, h⟩ := bind_E h
  refine b_Contains_b0_W k l_0 s_1 0 _ _ _ (Fr.refl _ _) sls_ _ h7 _ ?_ ?_
  ·rintro p8 σ' eo fr9
   subst eo
   rw [sum_L] at h
   obtain rfl := som_E h
   try refine gos_ ?_
   exact (.pure _ (.bool _))
  ·rintro p12 σ' eo fr13 s16
   subst eo
   rw [sum_R] at h
   obtain rfl := som_E h
   try refine gos_ ?_
   exact (.pure _ (.bool _))
def r_Table_b0 : Nat → (List Operator) → (List Operator) → Int → Option (List Operator)
  | 0, _, _, _ => none
  | k + 1, out_1, add_2, i_3 =>
    cond (decide (i_3 < (add_2.length : Int))) (if 0 ≤ i_3 then Option.bind (add_2[i_3.toNat]?) fun x3 => Option.bind (b_One (x3.fix == 1)) fun p6 => cond (x3.text == ([92, 88] : Str)) (if (out_1.length + 1) * 64 ≤ 1099511627776 then r_Table_b0 k (out_1 ++ [(Operator.mk x3.text x3.fix x3.low x3.high x3.left (IntKind.wrap .i64 (1 + p6)) 4)]) add_2 (IntKind.wrap .i64 (i_3 + 1)) else none) (if (out_1.length + 1) * 64 ≤ 1099511627776 then r_Table_b0 k (out_1 ++ [(Operator.mk x3.text x3.fix x3.low x3.high x3.left (IntKind.wrap .i64 (1 + p6)) (IntKind.wrap .i64 (1 + p6)))]) add_2 (IntKind.wrap .i64 (i_3 + 1)) else none) else none) (some (out_1))
def r_Table_b0l : List Nat := [1, 3, 4, 48, 49, 50, 51, 52, 53, 54, 55, 56, 57, 58, 59, 60, 61, 62, 63, 64, 65, 66, 67, 68, 69, 70, 71, 72, 73, 74]
theorem r_Table_b0_W : ∀ (k : Nat) (out_1 : List Operator) (add_2 : List Operator) (i_3 : Int) (c_out_1_b0 : Ck) (c_add_2_b0 : Ck) (σ0 σ : Nat → PV) (H0 H : AH) (f0 : Fr r_Table_b0l σ0 σ) (hf0 : HF [] H0 H) (sl : σ 1 = (.isl (out_1.map Operator.cells) c_out_1_b0) ∧ σ 2 = (.isl (add_2.map Operator.cells) c_add_2_b0) ∧ σ 3 = (.int .i64 i_3)) (ok_out_1 : okc H c_out_1_b0) (o : List Operator) (h : r_Table_b0 k out_1 add_2 i_3 = some o) (Q : Post) (q0 : ∀ (p : List Operator) (c0 : Ck) (σ' : Nat → PV) (H' : AH), o = p → Fr r_Table_b0l σ0 σ' → HF [] H0 H' → (σ' 1 = (.isl (p.map Operator.cells) c0)) → Q (.exit 0) σ' H') , W Tryz.prog (.loop ac64_b0) Q σ H := by
  intro k
  induction k with
  | zero => intro out_1 add_2 i_3 c_out_1_b0 c_add_2_b0 σ0 σ H0 H f0 hf0 sl ok_out_1 o h Q q0; simp only [r_Table_b0, reduceCtorEq] at h
  | succ k ih =>
    intro out_1 add_2 i_3 c_out_1_b0 c_add_2_b0 σ0 σ H0 H f0 hf0 sl ok_out_1 o h Q q0
    obtain ⟨s1, s2, s3⟩ := sl
    have hle0 := hf0.1
    unfold r_Table_b0 at h
    refine W_loopK (fun K hK => W_start ?_)
    unfold ac64_b0
    rcases cond_E h with ⟨e1, h⟩ | ⟨e1, h⟩
    ·obtain ⟨e2, h⟩ := if_E h
     obtain ⟨x3, e4, h⟩ := bind_E h
     obtain ⟨p6, e5, h⟩ := bind_E h
     try refine gos_ ?_
     refine mcall_pure (b_One_c e5) ?_
     rcases cond_E h with ⟨e7, h⟩ | ⟨e7, h⟩
     ·obtain ⟨e12, h⟩ := if_E h
      try refine gos_ ?_
      refine WO_app (f := Operator.cells) Operator.row out_1 ([(Operator.mk x3.text x3.fix x3.low x3.high x3.left (IntKind.wrap .i64 (1 + p6)) 4)] : List Operator) c_out_1_b0 .exact sls_ sls_ ok_ (by first | exact e12 | (simp only [List.length_cons, List.length_nil] ; exact e12)) (fun c8 H9 ok10 le ob13 rl11 => ?_)
      have hf14 : HF [] _ H9 := ⟨le, fun i _ _ => ob13 i⟩
      try simp only [AH.new_next, AH.put_next, AH.tok_next, AH.use_next] at le
      have n22 := ne_next (show H.next < H9.next by first | omega | (simp only [AH.new_next, AH.put_next, AH.tok_next, AH.use_next]; omega))
      have m23 := ne_add (show H.next < H9.next by first | omega | (simp only [AH.new_next, AH.put_next, AH.tok_next, AH.use_next]; omega))
      try refine gos_ ?_
      refine hK _ _ ?_
      exact ih (out_1 ++ [(Operator.mk x3.text x3.fix x3.low x3.high x3.left (IntKind.wrap .i64 (1 + p6)) 4)]) add_2 (IntKind.wrap .i64 (i_3 + 1)) c8 c_add_2_b0 _ _ _ _ fr_ (by repeat (first | exact hf0 | refine HF.new ?_ | refine HF.tokd ?_ | refine HF.used ?_ | refine HF.put (by first | (right; omega) | (left; simp only [List.mem_cons, true_or, or_true])) ?_ | refine HF.via hf14 (by first | exact fun i hi => absurd hi List.not_mem_nil | (intro i hi; simp only [List.mem_cons, List.not_mem_nil, or_false] at hi ⊢; first | exact .inl hi | omega)) ?_)) sls_ ok_ _ h _ q0
     ·obtain ⟨e19, h⟩ := if_E h
      try refine gos_ ?_
      refine WO_app (f := Operator.cells) Operator.row out_1 ([(Operator.mk x3.text x3.fix x3.low x3.high x3.left (IntKind.wrap .i64 (1 + p6)) (IntKind.wrap .i64 (1 + p6)))] : List Operator) c_out_1_b0 .exact sls_ sls_ ok_ (by first | exact e19 | (simp only [List.length_cons, List.length_nil] ; exact e19)) (fun c15 H16 ok17 le ob20 rl18 => ?_)
      have hf21 : HF [] _ H16 := ⟨le, fun i _ _ => ob20 i⟩
      try simp only [AH.new_next, AH.put_next, AH.tok_next, AH.use_next] at le
      have n24 := ne_next (show H.next < H16.next by first | omega | (simp only [AH.new_next, AH.put_next, AH.tok_next, AH.use_next]; omega))
      have m25 := ne_add (show H.next < H16.next by first | omega | (simp only [AH.new_next, AH.put_next, AH.tok_next, AH.use_next]; omega))
      try refine gos_ ?_
      refine hK _ _ ?_
      exact ih (out_1 ++ [(Operator.mk x3.text x3.fix x3.low x3.high x3.left (IntKind.wrap .i64 (1 + p6)) (IntKind.wrap .i64 (1 + p6)))]) add_2 (IntKind.wrap .i64 (i_3 + 1)) c15 c_add_2_b0 _ _ _ _ fr_ (by repeat (first | exact hf0 | refine HF.new ?_ | refine HF.tokd ?_ | refine HF.used ?_ | refine HF.put (by first | (right; omega) | (left; simp only [List.mem_cons, true_or, or_true])) ?_ | refine HF.via hf21 (by first | exact fun i hi => absurd hi List.not_mem_nil | (intro i hi; simp only [List.mem_cons, List.not_mem_nil, or_false] at hi ⊢; first | exact .inl hi | omega)) ?_)) sls_ ok_ _ h _ q0
    ·obtain rfl := som_E h
     try refine gos_ ?_
     exact q0 _ c_out_1_b0 _ _ rfl fr_ (by repeat (first | exact hf0 | refine HF.new ?_ | refine HF.tokd ?_ | refine HF.used ?_ | refine HF.put (by first | (right; omega) | (left; simp only [List.mem_cons, true_or, or_true])) ?_)) sls_
def r_Table (k : Nat) : Option (List Operator) :=
  Option.bind (r_Table_b0 k ([] : List Operator) [(Operator.mk ([126] : Str) 0 4 4 false 0 0), (Operator.mk ([69, 78, 65, 66, 76, 69, 68] : Str) 0 4 15 false 0 0), (Operator.mk ([85, 78, 67, 72, 65, 78, 71, 69, 68] : Str) 0 4 15 false 0 0), (Operator.mk ([91, 93] : Str) 0 4 15 false 0 0), (Operator.mk ([60, 62] : Str) 0 4 15 false 0 0), (Operator.mk ([83, 85, 66, 83, 69, 84] : Str) 0 8 8 false 0 0), (Operator.mk ([85, 78, 73, 79, 78] : Str) 0 8 8 false 0 0), (Operator.mk ([68, 79, 77, 65, 73, 78] : Str) 0 9 9 false 0 0), (Operator.mk ([45, 46] : Str) 0 12 12 false 0 0), (Operator.mk ([61, 62] : Str) 1 1 1 false 0 0), (Operator.mk ([60, 61, 62] : Str) 1 2 2 false 0 0), (Operator.mk ([126, 62] : Str) 1 2 2 false 0 0), (Operator.mk ([47, 92] : Str) 1 3 3 true 0 0), (Operator.mk ([92, 47] : Str) 1 3 3 true 0 0), (Operator.mk ([61] : Str) 1 5 5 false 0 0), (Operator.mk ([35] : Str) 1 5 5 false 0 0), (Operator.mk ([60] : Str) 1 5 5 false 0 0), (Operator.mk ([60, 61] : Str) 1 5 5 false 0 0), (Operator.mk ([62] : Str) 1 5 5 false 0 0), (Operator.mk ([62, 61] : Str) 1 5 5 false 0 0), (Operator.mk ([92, 105, 110] : Str) 1 5 5 false 0 0), (Operator.mk ([92, 110, 111, 116, 105, 110] : Str) 1 5 5 false 0 0), (Operator.mk ([92, 115, 117, 98, 115, 101, 116, 101, 113] : Str) 1 5 5 false 0 0), (Operator.mk ([92, 115, 113, 115, 117, 98, 115, 101, 116, 101, 113] : Str) 1 5 5 false 0 0), (Operator.mk ([64, 64] : Str) 1 6 6 true 0 0), (Operator.mk ([58, 62] : Str) 1 7 7 false 0 0), (Operator.mk ([92, 99, 100, 111, 116] : Str) 1 5 14 true 0 0), (Operator.mk ([92, 99, 117, 112] : Str) 1 8 8 true 0 0), (Operator.mk ([92, 99, 97, 112] : Str) 1 8 8 true 0 0), (Operator.mk ([92] : Str) 1 8 8 false 0 0), (Operator.mk ([46, 46] : Str) 1 9 9 false 0 0), (Operator.mk ([43] : Str) 1 10 10 true 0 0), (Operator.mk ([40, 43, 41] : Str) 1 10 10 true 0 0), (Operator.mk ([37] : Str) 1 10 11 false 0 0), (Operator.mk ([92, 88] : Str) 1 10 13 false 0 0), (Operator.mk ([45] : Str) 1 11 11 true 0 0), (Operator.mk ([40, 45, 41] : Str) 1 11 11 true 0 0), (Operator.mk ([42] : Str) 1 13 13 true 0 0), (Operator.mk ([92, 100, 105, 118] : Str) 1 13 13 false 0 0), (Operator.mk ([92, 111] : Str) 1 13 13 true 0 0), (Operator.mk ([94] : Str) 1 14 14 false 0 0), (Operator.mk ([39] : Str) 2 15 15 false 0 0)] 0) (fun p28 => some p28)
theorem r_Table_c {k : Nat} {r : List Operator} (h : r_Table k = some r) : PCall Tryz.prog 64 [] (.isl (r.map Operator.cells) .unk) := by
  refine PCall.of_empty (PuL.mem .nil) (MCall_of_W ok64 (by simp) (W_start ?_)) (pu_sl Operator.pu _)
  unfold r_Table at h
  unfold ac64
  try refine gos_ ?_
  obtain ⟨o26, h27, h⟩ := bind_E h
  refine r_Table_b0_W k ([] : List Operator) [(Operator.mk ([126] : Str) 0 4 4 false 0 0), (Operator.mk ([69, 78, 65, 66, 76, 69, 68] : Str) 0 4 15 false 0 0), (Operator.mk ([85, 78, 67, 72, 65, 78, 71, 69, 68] : Str) 0 4 15 false 0 0), (Operator.mk ([91, 93] : Str) 0 4 15 false 0 0), (Operator.mk ([60, 62] : Str) 0 4 15 false 0 0), (Operator.mk ([83, 85, 66, 83, 69, 84] : Str) 0 8 8 false 0 0), (Operator.mk ([85, 78, 73, 79, 78] : Str) 0 8 8 false 0 0), (Operator.mk ([68, 79, 77, 65, 73, 78] : Str) 0 9 9 false 0 0), (Operator.mk ([45, 46] : Str) 0 12 12 false 0 0), (Operator.mk ([61, 62] : Str) 1 1 1 false 0 0), (Operator.mk ([60, 61, 62] : Str) 1 2 2 false 0 0), (Operator.mk ([126, 62] : Str) 1 2 2 false 0 0), (Operator.mk ([47, 92] : Str) 1 3 3 true 0 0), (Operator.mk ([92, 47] : Str) 1 3 3 true 0 0), (Operator.mk ([61] : Str) 1 5 5 false 0 0), (Operator.mk ([35] : Str) 1 5 5 false 0 0), (Operator.mk ([60] : Str) 1 5 5 false 0 0), (Operator.mk ([60, 61] : Str) 1 5 5 false 0 0), (Operator.mk ([62] : Str) 1 5 5 false 0 0), (Operator.mk ([62, 61] : Str) 1 5 5 false 0 0), (Operator.mk ([92, 105, 110] : Str) 1 5 5 false 0 0), (Operator.mk ([92, 110, 111, 116, 105, 110] : Str) 1 5 5 false 0 0), (Operator.mk ([92, 115, 117, 98, 115, 101, 116, 101, 113] : Str) 1 5 5 false 0 0), (Operator.mk ([92, 115, 113, 115, 117, 98, 115, 101, 116, 101, 113] : Str) 1 5 5 false 0 0), (Operator.mk ([64, 64] : Str) 1 6 6 true 0 0), (Operator.mk ([58, 62] : Str) 1 7 7 false 0 0), (Operator.mk ([92, 99, 100, 111, 116] : Str) 1 5 14 true 0 0), (Operator.mk ([92, 99, 117, 112] : Str) 1 8 8 true 0 0), (Operator.mk ([92, 99, 97, 112] : Str) 1 8 8 true 0 0), (Operator.mk ([92] : Str) 1 8 8 false 0 0), (Operator.mk ([46, 46] : Str) 1 9 9 false 0 0), (Operator.mk ([43] : Str) 1 10 10 true 0 0), (Operator.mk ([40, 43, 41] : Str) 1 10 10 true 0 0), (Operator.mk ([37] : Str) 1 10 11 false 0 0), (Operator.mk ([92, 88] : Str) 1 10 13 false 0 0), (Operator.mk ([45] : Str) 1 11 11 true 0 0), (Operator.mk ([40, 45, 41] : Str) 1 11 11 true 0 0), (Operator.mk ([42] : Str) 1 13 13 true 0 0), (Operator.mk ([92, 100, 105, 118] : Str) 1 13 13 false 0 0), (Operator.mk ([92, 111] : Str) 1 13 13 true 0 0), (Operator.mk ([94] : Str) 1 14 14 false 0 0), (Operator.mk ([39] : Str) 2 15 15 false 0 0)] 0 .nil .exact _ _ _ _ (Fr.refl _ _) (HF.refl _ _) sls_ ok_ _ h27 _ ?_
  ·rintro p28 c32 σ' H31 eo fr29 hf30 s33
   rw [eo] at h
   have le := hf30.1
   try simp only [AH.new_next, AH.put_next, AH.tok_next, AH.use_next] at le
   obtain rfl := som_E h
   try refine gos_ ?_
   exact (fz_sl Operator.pu p28 _)
def r_OperatorOf_b0 : Nat → Str → Str → Int → Int → Int → Bool → Int → Int → (List Operator) → Int → Option ((Str × Int × Int × Int × Bool × Int × Int) ⊕ (Bool × Str × Int × Int × Int × Bool × Int × Int))
  | 0, _, _, _, _, _, _, _, _, _, _ => none
  | k + 1, text_0, t_2_0, t_2_1, t_2_2, t_2_3, t_2_4, t_2_5, t_2_6, t_4, i_5 =>
    cond (decide (i_5 < (t_4.length : Int))) (if 0 ≤ i_5 then Option.bind (t_4[i_5.toNat]?) fun x5 => cond (x5.text == text_0) (some (.inr ((true, x5.text, x5.fix, x5.low, x5.high, x5.left, x5.least, x5.most)))) (r_OperatorOf_b0 k text_0 t_2_0 t_2_1 t_2_2 t_2_3 t_2_4 t_2_5 t_2_6 t_4 (IntKind.wrap .i64 (i_5 + 1))) else none) (some (.inl (t_2_0, t_2_1, t_2_2, t_2_3, t_2_4, t_2_5, t_2_6)))
def r_OperatorOf_b0l : List Nat := [3, 5, 7, 8, 9, 10, 11, 12, 13, 14, 15, 16, 17, 18, 19, 20, 21, 22, 23]
theorem r_OperatorOf_b0_W : ∀ (k : Nat) (o_t_2 : Nat) (text_0 : Str) (t_2_0 : Str) (t_2_1 : Int) (t_2_2 : Int) (t_2_3 : Int) (t_2_4 : Bool) (t_2_5 : Int) (t_2_6 : Int) (t_4 : List Operator) (i_5 : Int) (σ0 σ : Nat → PV) (H0 H : AH) (f0 : Fr r_OperatorOf_b0l σ0 σ) (hf0 : HF [o_t_2] H0 H) (sl : σ 0 = (.str text_0) ∧ σ 2 = (.ref (o_t_2) 0) ∧ σ 4 = (.isl (t_4.map Operator.cells) .unk) ∧ σ 5 = (.int .i64 i_5) ∧ H.obj o_t_2 = some [(.str t_2_0), (.int .i64 t_2_1), (.int .i64 t_2_2), (.int .i64 t_2_3), (.bool t_2_4), (.int .i64 t_2_5), (.int .i64 t_2_6)]) (l_o_t_2 : o_t_2 < H.next) (o : (Str × Int × Int × Int × Bool × Int × Int) ⊕ (Bool × Str × Int × Int × Int × Bool × Int × Int)) (h : r_OperatorOf_b0 k text_0 t_2_0 t_2_1 t_2_2 t_2_3 t_2_4 t_2_5 t_2_6 t_4 i_5 = some o) (Q : Post) (q0 : ∀ (p : Str × Int × Int × Int × Bool × Int × Int) (σ' : Nat → PV) (H' : AH), o = .inl p → Fr r_OperatorOf_b0l σ0 σ' → HF [o_t_2] H0 H' → (H'.obj o_t_2 = some [(.str p.1), (.int .i64 p.2.1), (.int .i64 p.2.2.1), (.int .i64 p.2.2.2.1), (.bool p.2.2.2.2.1), (.int .i64 p.2.2.2.2.2.1), (.int .i64 p.2.2.2.2.2.2)]) → Q (.exit 0) σ' H') (q1 : ∀ (p : Bool × Str × Int × Int × Int × Bool × Int × Int) (σ' : Nat → PV) (H' : AH), o = .inr (p) → Fr r_OperatorOf_b0l σ0 σ' → HF [o_t_2] H0 H' → (σ' 3 = (.bool p.1) ∧ H'.obj o_t_2 = some [(.str p.2.1), (.int .i64 p.2.2.1), (.int .i64 p.2.2.2.1), (.int .i64 p.2.2.2.2.1), (.bool p.2.2.2.2.2.1), (.int .i64 p.2.2.2.2.2.2.1), (.int .i64 p.2.2.2.2.2.2.2)]) → Q .ret σ' H') , W Tryz.prog (.loop ac27_b0) Q σ H := by
  intro k
  induction k with
  | zero => intro o_t_2 text_0 t_2_0 t_2_1 t_2_2 t_2_3 t_2_4 t_2_5 t_2_6 t_4 i_5 σ0 σ H0 H f0 hf0 sl l_o_t_2 o h Q q0 q1; simp only [r_OperatorOf_b0, reduceCtorEq] at h
  | succ k ih =>
    intro o_t_2 text_0 t_2_0 t_2_1 t_2_2 t_2_3 t_2_4 t_2_5 t_2_6 t_4 i_5 σ0 σ H0 H f0 hf0 sl l_o_t_2 o h Q q0 q1
    obtain ⟨s0, s2, s4, s5, g_o_t_2⟩ := sl
    have n_o_t_2 := ne_next l_o_t_2
    have m_o_t_2 := ne_add l_o_t_2
    have hle0 := hf0.1
    unfold r_OperatorOf_b0 at h
    refine W_loopK (fun K hK => W_start ?_)
    unfold ac27_b0
    rcases cond_E h with ⟨e3, h⟩ | ⟨e3, h⟩
    ·obtain ⟨e4, h⟩ := if_E h
     obtain ⟨x5, e6, h⟩ := bind_E h
     rcases cond_E h with ⟨e7, h⟩ | ⟨e7, h⟩
     ·obtain rfl := som_E h
      try refine gos_ ?_
      exact q1 _ _ _ rfl fr_ (by repeat (first | exact hf0 | refine HF.new ?_ | refine HF.tokd ?_ | refine HF.used ?_ | refine HF.put (by first | (right; omega) | (left; simp only [List.mem_cons, true_or, or_true])) ?_)) sls_
     ·try refine gos_ ?_
      refine hK _ _ ?_
      exact ih o_t_2 text_0 t_2_0 t_2_1 t_2_2 t_2_3 t_2_4 t_2_5 t_2_6 t_4 (IntKind.wrap .i64 (i_5 + 1)) _ _ _ _ fr_ (by repeat (first | exact hf0 | refine HF.new ?_ | refine HF.tokd ?_ | refine HF.used ?_ | refine HF.put (by first | (right; omega) | (left; simp only [List.mem_cons, true_or, or_true])) ?_)) sls_ om_ _ h _ q0 q1
    ·obtain rfl := som_E h
     try refine gos_ ?_
     exact q0 _ _ _ rfl fr_ (by repeat (first | exact hf0 | refine HF.new ?_ | refine HF.tokd ?_ | refine HF.used ?_ | refine HF.put (by first | (right; omega) | (left; simp only [List.mem_cons, true_or, or_true])) ?_)) sls_
def r_OperatorOf (k : Nat) (text_0 : Str) : Option (Operator × Bool) :=
  Option.bind (r_Table k ) fun p2 => Option.bind (r_OperatorOf_b0 k text_0 ([] : Str) 0 0 0 false 0 0 p2 0) (fun o => Sum.elim (fun p10 => some ((Operator.mk [] 0 0 0 false 0 0), false)) (fun p19 => some ((Operator.mk p19.2.1 p19.2.2.1 p19.2.2.2.1 p19.2.2.2.2.1 p19.2.2.2.2.2.1 p19.2.2.2.2.2.2.1 p19.2.2.2.2.2.2.2), p19.1)) o)
theorem r_OperatorOf_c {k : Nat} {text_0 : Str} {r : Operator × Bool} (h : r_OperatorOf k text_0 = some r) : PCall Tryz.prog 27 [(.str text_0)] (.tup [(.agg (Operator.cells r.1)), (.bool r.2)]) := by
  refine PCall.of_empty (PuL.mem (.cons (.str _) .nil)) (MCall_of_W ok27 (by simp) (W_start ?_)) (.tup _ (PuL.mem (.cons (.agg _ (Operator.pu _)) (.cons (.bool _) .nil))))
  unfold r_OperatorOf at h
  unfold ac27
  obtain ⟨p2, e1, h⟩ := bind_E h
  try refine gos_ ?_
  refine mcall_pure (r_Table_c e1) ?_
  try refine gos_ ?_
  obtain ⟨o8, h9, h⟩ := bind_E h
  refine r_OperatorOf_b0_W k (AH.empty.next) text_0 ([] : Str) 0 0 0 false 0 0 p2 0 _ _ _ _ (Fr.refl _ _) (HF.refl _ _) sls_ om_ _ h9 _ ?_ ?_
  ·rintro p10 σ' H13 eo fr11 hf12 g14
   subst eo
   rw [sum_L] at h
   have s15 : σ' 2 = (.ref (AH.empty.next) 0) := (fr11 2 (by decide)).trans sls_
   have le := hf12.1
   try simp only [AH.new_next, AH.put_next, AH.tok_next, AH.use_next] at le
   have n17 := ne_next (show AH.empty.next < H13.next by first | omega | (simp only [AH.new_next, AH.put_next, AH.tok_next, AH.use_next]; omega))
   have m18 := ne_add (show AH.empty.next < H13.next by first | omega | (simp only [AH.new_next, AH.put_next, AH.tok_next, AH.use_next]; omega))
   obtain rfl := som_E h
   try refine gos_ ?_
   exact (fz_tup (.cons (fz_agg (.cons (.pure _ (.str _)) (.cons (.pure _ (.int _ _)) (.cons (.pure _ (.int _ _)) (.cons (.pure _ (.int _ _)) (.cons (.pure _ (.bool _)) (.cons (.pure _ (.int _ _)) (.cons (.pure _ (.int _ _)) .nil)))))))) (.cons (.pure _ (.bool _)) .nil)))
  ·rintro p19 σ' H22 eo fr20 hf21 ⟨s23, g24⟩
   subst eo
   rw [sum_R] at h
   have s25 : σ' 2 = (.ref (AH.empty.next) 0) := (fr20 2 (by decide)).trans sls_
   have le := hf21.1
   try simp only [AH.new_next, AH.put_next, AH.tok_next, AH.use_next] at le
   have n27 := ne_next (show AH.empty.next < H22.next by first | omega | (simp only [AH.new_next, AH.put_next, AH.tok_next, AH.use_next]; omega))
   have m28 := ne_add (show AH.empty.next < H22.next by first | omega | (simp only [AH.new_next, AH.put_next, AH.tok_next, AH.use_next]; omega))
   obtain rfl := som_E h
   try refine gos_ ?_
   exact (fz_tup (.cons (fz_agg (.cons (.pure _ (.str _)) (.cons (.pure _ (.int _ _)) (.cons (.pure _ (.int _ _)) (.cons (.pure _ (.int _ _)) (.cons (.pure _ (.bool _)) (.cons (.pure _ (.int _ _)) (.cons (.pure _ (.int _ _)) .nil)))))))) (.cons (.pure _ (.bool _)) .nil)))
def b_Reserved : Option (List Str) :=
  some [([65, 83, 83, 85, 77, 69] : Str), ([65, 83, 83, 85, 77, 80, 84, 73, 79, 78] : Str), ([65, 88, 73, 79, 77] : Str), ([66, 89] : Str), ([67, 65, 83, 69] : Str), ([67, 72, 79, 79, 83, 69] : Str), ([67, 79, 78, 83, 84, 65, 78, 84] : Str), ([67, 79, 78, 83, 84, 65, 78, 84, 83] : Str), ([68, 69, 70] : Str), ([68, 69, 70, 73, 78, 69] : Str), ([68, 69, 70, 83] : Str), ([68, 79, 77, 65, 73, 78] : Str), ([69, 76, 83, 69] : Str), ([69, 78, 65, 66, 76, 69, 68] : Str), ([69, 88, 67, 69, 80, 84] : Str), ([69, 88, 84, 69, 78, 68, 83] : Str), ([70, 65, 76, 83, 69] : Str), ([72, 65, 86, 69] : Str), ([72, 73, 68, 69] : Str), ([73, 70] : Str), ([73, 78] : Str), ([73, 78, 83, 84, 65, 78, 67, 69] : Str), ([76, 65, 77, 66, 68, 65] : Str), ([76, 69, 77, 77, 65] : Str), ([76, 69, 84] : Str), ([76, 79, 67, 65, 76] : Str), ([77, 79, 68, 85, 76, 69] : Str), ([78, 69, 87] : Str), ([79, 66, 86, 73, 79, 85, 83] : Str), ([79, 77, 73, 84, 84, 69, 68] : Str), ([79, 84, 72, 69, 82] : Str), ([80, 73, 67, 75] : Str), ([80, 82, 79, 79, 70] : Str), ([80, 82, 79, 80, 79, 83, 73, 84, 73, 79, 78] : Str), ([80, 82, 79, 86, 69] : Str), ([81, 69, 68] : Str), ([82, 69, 67, 85, 82, 83, 73, 86, 69] : Str), ([83, 85, 66, 83, 69, 84] : Str), ([83, 85, 70, 70, 73, 67, 69, 83] : Str), ([84, 65, 75, 69] : Str), ([84, 72, 69, 78] : Str), ([84, 72, 69, 79, 82, 69, 77] : Str), ([84, 82, 85, 69] : Str), ([85, 78, 67, 72, 65, 78, 71, 69, 68] : Str), ([85, 78, 73, 79, 78] : Str), ([85, 83, 69] : Str), ([86, 65, 82, 73, 65, 66, 76, 69] : Str), ([86, 65, 82, 73, 65, 66, 76, 69, 83] : Str), ([87, 73, 84, 72] : Str), ([87, 73, 84, 78, 69, 83, 83] : Str)]
def b_OwnTexts (l_0 : List Str) : Option (List Str) :=
  if (([] : List Str).length + l_0.length) * 16 ≤ 1099511627776 then some (([] : List Str) ++ l_0) else none
theorem b_OwnTexts_c {l_0 : List Str} {c0 : Ck} {r : List Str} (h : b_OwnTexts l_0 = some r) : PCall Tryz.prog 52 [(.isl (l_0.map strL) c0)] (.isl (r.map strL) .unk) := by
  refine PCall.lw (.isl .nil) (PCall.of_empty (PuL.mem (.cons (pu_sl pu_strL _) .nil)) (MCall_of_W ok52 (by simp) (W_start ?_)) (pu_sl pu_strL _))
  unfold b_OwnTexts at h
  unfold ac52
  obtain ⟨e5, h⟩ := if_E h
  try refine gos_ ?_
  refine WO_app (f := strL) row_str ([] : List Str) (l_0 : List Str) .exact .unk sls_ sls_ ok_ (by first | exact e5 | (simp only [List.length_cons, List.length_nil] ; exact e5)) (fun c1 H2 ok3 le ob6 rl4 => ?_)
  have hf7 : HF [] _ H2 := ⟨le, fun i _ _ => ob6 i⟩
  try simp only [AH.new_next, AH.put_next, AH.tok_next, AH.use_next] at le
  obtain rfl := som_E h
  try refine gos_ ?_
  exact (fz_sl pu_strL (([] : List Str) ++ l_0) _)
end Go.VL
end
section
set_option maxRecDepth 8000
set_option maxHeartbeats 4000000
namespace Go.VL
open Go.Proofs
def t_spans (n_0 : Int) (from_1 : Int) (to_2 : Int) : Option Bool :=
  cond (decide (from_1 ≤ n_0)) (some (decide (n_0 ≤ to_2))) (some false)
theorem t_spans_c {n_0 : Int} {from_1 : Int} {to_2 : Int} {r : Bool} (h : t_spans n_0 from_1 to_2 = some r) : PCall Tryz.prog 69 [(.int .i64 n_0), (.int .i64 from_1), (.int .i64 to_2)] (.bool r) := by
  refine PCall.of_empty (PuL.mem (.cons (.int _ _) (.cons (.int _ _) (.cons (.int _ _) .nil)))) (MCall_of_W ok69 (by simp) (W_start ?_)) (.bool _)
  unfold t_spans at h
  unfold ac69
  rcases cond_E h with ⟨e1, h⟩ | ⟨e1, h⟩
  ·obtain rfl := som_E h
   try refine gos_ ?_
   exact (.pure _ (.bool _))
  ·obtain rfl := som_E h
   try refine gos_ ?_
   exact (.pure _ (.bool _))
def t_wrong (is_0 : Bool) (code_1 : Int) : Option Int :=
  cond is_0 (some code_1) (some 0)
theorem t_wrong_c {is_0 : Bool} {code_1 : Int} {r : Int} (h : t_wrong is_0 code_1 = some r) : PCall Tryz.prog 47 [(.bool is_0), (.int .i64 code_1)] (.int .i64 r) := by
  refine PCall.of_empty (PuL.mem (.cons (.bool _) (.cons (.int _ _) .nil))) (MCall_of_W ok47 (by simp) (W_start ?_)) (.int _ _)
  unfold t_wrong at h
  unfold ac47
  rcases cond_E h with ⟨e1, h⟩ | ⟨e1, h⟩
  ·obtain rfl := som_E h
   try refine gos_ ?_
   exact (.pure _ (.int _ _))
  ·obtain rfl := som_E h
   try refine gos_ ?_
   exact (.pure _ (.int _ _))
def g_Or_api_Errno_b0 : Nat → (List Int) → Int → Int → Option (Unit ⊕ Int)
  | 0, _, _, _ => none
  | k + 1, t_6, t_7, t_8 =>
    cond (decide (t_8 < t_7)) (if 0 ≤ t_8 then Option.bind (t_6[t_8.toNat]?) fun x3 => cond (x3 != 0) (some (.inr (x3))) (g_Or_api_Errno_b0 k t_6 t_7 (IntKind.wrap .i64 (t_8 + 1))) else none) (some (.inl ()))
def g_Or_api_Errno_b0l : List Nat := [2, 5, 8, 9, 10, 11, 12, 13, 14, 15, 16]
theorem g_Or_api_Errno_b0_W : ∀ (k : Nat) (t_6 : List Int) (t_7 : Int) (t_8 : Int) (σ0 σ : Nat → PV) (H : AH) (f0 : Fr g_Or_api_Errno_b0l σ0 σ) (sl : σ 3 = (.int .i64 0) ∧ σ 6 = (.isl (t_6.map intL) .unk) ∧ σ 7 = (.int .i64 t_7) ∧ σ 8 = (.int .i64 t_8)) (o : Unit ⊕ Int) (h : g_Or_api_Errno_b0 k t_6 t_7 t_8 = some o) (Q : Post) (q0 : ∀ (p : Unit) (σ' : Nat → PV), o = .inl p → Fr g_Or_api_Errno_b0l σ0 σ' → Q (.exit 0) σ' H) (q1 : ∀ (p : Int) (σ' : Nat → PV), o = .inr (p) → Fr g_Or_api_Errno_b0l σ0 σ' → (σ' 2 = (.int .i64 p)) → Q .ret σ' H) , W Tryz.prog (.loop ac46_b0) Q σ H := by
  intro k
  induction k with
  | zero => intro t_6 t_7 t_8 σ0 σ H f0 sl o h Q q0 q1; simp only [g_Or_api_Errno_b0, reduceCtorEq] at h
  | succ k ih =>
    intro t_6 t_7 t_8 σ0 σ H f0 sl o h Q q0 q1
    obtain ⟨s3, s6, s7, s8⟩ := sl
    unfold g_Or_api_Errno_b0 at h
    refine W_loopK (fun K hK => W_start ?_)
    unfold ac46_b0
    rcases cond_E h with ⟨e1, h⟩ | ⟨e1, h⟩
    ·obtain ⟨e2, h⟩ := if_E h
     obtain ⟨x3, e4, h⟩ := bind_E h
     rcases cond_E h with ⟨e5, h⟩ | ⟨e5, h⟩
     ·obtain rfl := som_E h
      try refine gos_ ?_
      exact q1 _ _ rfl fr_ sls_
     ·try refine gos_ ?_
      refine hK _ _ ?_
      exact ih t_6 t_7 (IntKind.wrap .i64 (t_8 + 1)) _ _ _ fr_ sls_ _ h _ q0 q1
    ·obtain rfl := som_E h
     try refine gos_ ?_
     exact q0 _ _ rfl fr_
def g_Or_api_Errno (k : Nat) (vals_0 : List Int) : Option Int :=
  Option.bind (g_Or_api_Errno_b0 k vals_0 (vals_0.length : Int) 0) (fun o => Sum.elim (fun p8 => some 0) (fun p13 => some p13) o)
theorem g_Or_api_Errno_c {k : Nat} {vals_0 : List Int} {c0 : Ck} {r : Int} (h : g_Or_api_Errno k vals_0 = some r) : PCall Tryz.prog 46 [(.isl (vals_0.map intL) c0)] (.int .i64 r) := by
  refine PCall.lw (.isl .nil) (PCall.of_empty (PuL.mem (.cons (pu_sl pu_intL _) .nil)) (MCall_of_W ok46 (by simp) (W_start ?_)) (.int _ _))
  unfold g_Or_api_Errno at h
  unfold ac46
  try refine gos_ ?_
  obtain ⟨o6, h7, h⟩ := bind_E h
  refine g_Or_api_Errno_b0_W k vals_0 (vals_0.length : Int) 0 _ _ _ (Fr.refl _ _) sls_ _ h7 _ ?_ ?_
  ·rintro p8 σ' eo fr9
   subst eo
   rw [sum_L] at h
   have s12 : σ' 3 = (.int .i64 0) := (fr9 3 (by decide)).trans sls_
   obtain rfl := som_E h
   try refine gos_ ?_
   exact (.pure _ (.int _ _))
  ·rintro p13 σ' eo fr14 s17
   subst eo
   rw [sum_R] at h
   obtain rfl := som_E h
   try refine gos_ ?_
   exact (.pure _ (.int _ _))
def t_operatorOf_1 (o_0 : Operator) (t_1 : Str) : Option Bool :=
  some (o_0.text == t_1)
theorem t_operatorOf_1_c {o_0 : Operator} {t_1 : Str} {r : Bool} (h : t_operatorOf_1 o_0 t_1 = some r) : PCall Tryz.prog 112 [(.agg (Operator.cells o_0)), (.iptr [(.str t_1)] 0)] (.bool r) := by
  refine PCall.of_empty (PuL.mem (.cons (.agg _ (Operator.pu _)) (.cons (.iptr _ _ (PuL.mem (.cons (.str _) .nil))) .nil))) (MCall_of_W ok112 (by simp) (W_start ?_)) (.bool _)
  unfold t_operatorOf_1 at h
  unfold ac112
  obtain rfl := som_E h
  try refine gos_ ?_
  exact (.pure _ (.bool _))
def g_IndexFunc_api_Operator_api_Operator_at112_b0 : Nat → (List Operator) → Str → Int → Int → Option (Unit ⊕ Int)
  | 0, _, _, _, _ => none
  | k + 1, s_0, f_1_0, t_7, t_8 =>
    cond (decide (t_8 < t_7)) (if 0 ≤ t_8 then Option.bind (s_0[t_8.toNat]?) fun x3 => Option.bind (t_operatorOf_1 x3 f_1_0) fun p6 => cond p6 (some (.inr (t_8))) (g_IndexFunc_api_Operator_api_Operator_at112_b0 k s_0 f_1_0 t_7 (IntKind.wrap .i64 (t_8 + 1))) else none) (some (.inl ()))
def g_IndexFunc_api_Operator_api_Operator_at112_b0l : List Nat := [4, 5, 8, 9, 10, 11, 12, 13, 14, 15, 16, 17, 18]
theorem g_IndexFunc_api_Operator_api_Operator_at112_b0_W : ∀ (k : Nat) (s_0 : List Operator) (f_1_0 : Str) (t_7 : Int) (t_8 : Int) (σ0 σ : Nat → PV) (H : AH) (f0 : Fr g_IndexFunc_api_Operator_api_Operator_at112_b0l σ0 σ) (sl : σ 0 = (.isl (s_0.map Operator.cells) .unk) ∧ σ 1 = (.fn (.func 112) [] [(.iptr [(.str f_1_0)] 0)]) ∧ σ 7 = (.int .i64 t_7) ∧ σ 8 = (.int .i64 t_8)) (o : Unit ⊕ Int) (h : g_IndexFunc_api_Operator_api_Operator_at112_b0 k s_0 f_1_0 t_7 t_8 = some o) (Q : Post) (q0 : ∀ (p : Unit) (σ' : Nat → PV), o = .inl p → Fr g_IndexFunc_api_Operator_api_Operator_at112_b0l σ0 σ' → Q (.exit 0) σ' H) (q1 : ∀ (p : Int) (σ' : Nat → PV), o = .inr (p) → Fr g_IndexFunc_api_Operator_api_Operator_at112_b0l σ0 σ' → (σ' 4 = (.int .i64 p)) → Q .ret σ' H) , W Tryz.prog (.loop ac111_b0) Q σ H := by
  intro k
  induction k with
  | zero => intro s_0 f_1_0 t_7 t_8 σ0 σ H f0 sl o h Q q0 q1; simp only [g_IndexFunc_api_Operator_api_Operator_at112_b0, reduceCtorEq] at h
  | succ k ih =>
    intro s_0 f_1_0 t_7 t_8 σ0 σ H f0 sl o h Q q0 q1
    obtain ⟨s0, s1, s7, s8⟩ := sl
    unfold g_IndexFunc_api_Operator_api_Operator_at112_b0 at h
    refine W_loopK (fun K hK => W_start ?_)
    unfold ac111_b0
    rcases cond_E h with ⟨e1, h⟩ | ⟨e1, h⟩
    ·obtain ⟨e2, h⟩ := if_E h
     obtain ⟨x3, e4, h⟩ := bind_E h
     obtain ⟨p6, e5, h⟩ := bind_E h
     try refine gos_ ?_
     refine mcall_pure (t_operatorOf_1_c e5) ?_
     rcases cond_E h with ⟨e7, h⟩ | ⟨e7, h⟩
     ·obtain rfl := som_E h
      try refine gos_ ?_
      exact q1 _ _ rfl fr_ sls_
     ·try refine gos_ ?_
      refine hK _ _ ?_
      exact ih s_0 f_1_0 t_7 (IntKind.wrap .i64 (t_8 + 1)) _ _ _ fr_ sls_ _ h _ q0 q1
    ·obtain rfl := som_E h
     try refine gos_ ?_
     exact q0 _ _ rfl fr_
def g_IndexFunc_api_Operator_api_Operator_at112 (k : Nat) (s_0 : List Operator) (f_1_0 : Str) : Option Int :=
  Option.bind (g_IndexFunc_api_Operator_api_Operator_at112_b0 k s_0 f_1_0 (s_0.length : Int) 0) (fun o => Sum.elim (fun p10 => some (-1)) (fun p14 => some p14) o)
theorem g_IndexFunc_api_Operator_api_Operator_at112_c {k : Nat} {s_0 : List Operator} {f_1_0 : Str} {c0 : Ck} {r : Int} (h : g_IndexFunc_api_Operator_api_Operator_at112 k s_0 f_1_0 = some r) : PCall Tryz.prog 111 [(.isl (s_0.map Operator.cells) c0), (.fn (.func 112) [] [(.iptr [(.str f_1_0)] 0)])] (.int .i64 r) := by
  refine PCall.lw (.isl (.same .nil)) (PCall.of_empty (PuL.mem (.cons (pu_sl Operator.pu _) (.cons (.fn _ _ _ (PuL.mem .nil) (PuL.mem (.cons (.iptr _ _ (PuL.mem (.cons (.str _) .nil))) .nil))) .nil))) (MCall_of_W ok111 (by simp) (W_start ?_)) (.int _ _))
  unfold g_IndexFunc_api_Operator_api_Operator_at112 at h
  unfold ac111
  try refine gos_ ?_
  obtain ⟨o8, h9, h⟩ := bind_E h
  refine g_IndexFunc_api_Operator_api_Operator_at112_b0_W k s_0 f_1_0 (s_0.length : Int) 0 _ _ _ (Fr.refl _ _) sls_ _ h9 _ ?_ ?_
  ·rintro p10 σ' eo fr11
   subst eo
   rw [sum_L] at h
   obtain rfl := som_E h
   try refine gos_ ?_
   exact (.pure _ (.int _ _))
  ·rintro p14 σ' eo fr15 s18
   subst eo
   rw [sum_R] at h
   obtain rfl := som_E h
   try refine gos_ ?_
   exact (.pure _ (.int _ _))
def t_isText_1 (c_0 : Int) : Option Bool :=
  Option.bind (t_spans (IntKind.wrap .i64 c_0) 32 126) fun p2 => cond p2 (cond (c_0 == 34) (some true) (some (c_0 == 92))) (some true)
theorem t_isText_1_c {c_0 : Int} {r : Bool} (h : t_isText_1 c_0 = some r) : PCall Tryz.prog 142 [(.int .i32 c_0)] (.bool r) := by
  refine PCall.of_empty (PuL.mem (.cons (.int _ _) .nil)) (MCall_of_W ok142 (by simp) (W_start ?_)) (.bool _)
  unfold t_isText_1 at h
  unfold ac142
  obtain ⟨p2, e1, h⟩ := bind_E h
  try refine gos_ ?_
  refine mcall_pure (t_spans_c e1) ?_
  rcases cond_E h with ⟨e3, h⟩ | ⟨e3, h⟩
  ·rcases cond_E h with ⟨e4, h⟩ | ⟨e4, h⟩
   ·obtain rfl := som_E h
    try refine gos_ ?_
    exact (.pure _ (.bool _))
   ·obtain rfl := som_E h
    try refine gos_ ?_
    exact (.pure _ (.bool _))
  ·obtain rfl := som_E h
   try refine gos_ ?_
   exact (.pure _ (.bool _))
def g_Index_string_string_b0 : Nat → (List Str) → Str → Int → Int → Option (Unit ⊕ Int)
  | 0, _, _, _, _ => none
  | k + 1, s_0, v_1, t_7, t_8 =>
    cond (decide (t_8 < t_7)) (if 0 ≤ t_8 then Option.bind (s_0[t_8.toNat]?) fun x3 => cond (v_1 == x3) (some (.inr (t_8))) (g_Index_string_string_b0 k s_0 v_1 t_7 (IntKind.wrap .i64 (t_8 + 1))) else none) (some (.inl ()))
def g_Index_string_string_b0l : List Nat := [4, 5, 8, 9, 10, 11, 12, 13, 14, 15, 16, 17, 18]
theorem g_Index_string_string_b0_W : ∀ (k : Nat) (s_0 : List Str) (v_1 : Str) (t_7 : Int) (t_8 : Int) (σ0 σ : Nat → PV) (H : AH) (f0 : Fr g_Index_string_string_b0l σ0 σ) (sl : σ 0 = (.isl (s_0.map strL) .unk) ∧ σ 1 = (.str v_1) ∧ σ 7 = (.int .i64 t_7) ∧ σ 8 = (.int .i64 t_8)) (o : Unit ⊕ Int) (h : g_Index_string_string_b0 k s_0 v_1 t_7 t_8 = some o) (Q : Post) (q0 : ∀ (p : Unit) (σ' : Nat → PV), o = .inl p → Fr g_Index_string_string_b0l σ0 σ' → Q (.exit 0) σ' H) (q1 : ∀ (p : Int) (σ' : Nat → PV), o = .inr (p) → Fr g_Index_string_string_b0l σ0 σ' → (σ' 4 = (.int .i64 p)) → Q .ret σ' H) , W Tryz.prog (.loop ac130_b0) Q σ H := by
  intro k
  induction k with
  | zero => intro s_0 v_1 t_7 t_8 σ0 σ H f0 sl o h Q q0 q1; simp only [g_Index_string_string_b0, reduceCtorEq] at h
  | succ k ih =>
    intro s_0 v_1 t_7 t_8 σ0 σ H f0 sl o h Q q0 q1
    obtain ⟨s0, s1, s7, s8⟩ := sl
    unfold g_Index_string_string_b0 at h
    refine W_loopK (fun K hK => W_start ?_)
    unfold ac130_b0
    rcases cond_E h with ⟨e1, h⟩ | ⟨e1, h⟩
    ·obtain ⟨e2, h⟩ := if_E h
     obtain ⟨x3, e4, h⟩ := bind_E h
     rcases cond_E h with ⟨e5, h⟩ | ⟨e5, h⟩
     ·obtain rfl := som_E h
      try refine gos_ ?_
      exact q1 _ _ rfl fr_ sls_
     ·try refine gos_ ?_
      refine hK _ _ ?_
      exact ih s_0 v_1 t_7 (IntKind.wrap .i64 (t_8 + 1)) _ _ _ fr_ sls_ _ h _ q0 q1
    ·obtain rfl := som_E h
     try refine gos_ ?_
     exact q0 _ _ rfl fr_
def g_Index_string_string (k : Nat) (s_0 : List Str) (v_1 : Str) : Option Int :=
  Option.bind (g_Index_string_string_b0 k s_0 v_1 (s_0.length : Int) 0) (fun o => Sum.elim (fun p8 => some (-1)) (fun p12 => some p12) o)
theorem g_Index_string_string_c {k : Nat} {s_0 : List Str} {v_1 : Str} {c0 : Ck} {r : Int} (h : g_Index_string_string k s_0 v_1 = some r) : PCall Tryz.prog 130 [(.isl (s_0.map strL) c0), (.str v_1)] (.int .i64 r) := by
  refine PCall.lw (.isl (.same .nil)) (PCall.of_empty (PuL.mem (.cons (pu_sl pu_strL _) (.cons (.str _) .nil))) (MCall_of_W ok130 (by simp) (W_start ?_)) (.int _ _))
  unfold g_Index_string_string at h
  unfold ac130
  try refine gos_ ?_
  obtain ⟨o6, h7, h⟩ := bind_E h
  refine g_Index_string_string_b0_W k s_0 v_1 (s_0.length : Int) 0 _ _ _ (Fr.refl _ _) sls_ _ h7 _ ?_ ?_
  ·rintro p8 σ' eo fr9
   subst eo
   rw [sum_L] at h
   obtain rfl := som_E h
   try refine gos_ ?_
   exact (.pure _ (.int _ _))
  ·rintro p12 σ' eo fr13 s16
   subst eo
   rw [sum_R] at h
   obtain rfl := som_E h
   try refine gos_ ?_
   exact (.pure _ (.int _ _))
def g_Contains_string_string (k : Nat) (s_0 : List Str) (v_1 : Str) : Option Bool :=
  Option.bind (g_Index_string_string k s_0 v_1) fun p2 => some (decide (p2 ≥ 0))
theorem g_Contains_string_string_c {k : Nat} {s_0 : List Str} {v_1 : Str} {c0 : Ck} {r : Bool} (h : g_Contains_string_string k s_0 v_1 = some r) : PCall Tryz.prog 81 [(.isl (s_0.map strL) c0), (.str v_1)] (.bool r) := by
  refine PCall.lw (.isl (.same .nil)) (PCall.of_empty (PuL.mem (.cons (pu_sl pu_strL _) (.cons (.str _) .nil))) (MCall_of_W ok81 (by simp) (W_start ?_)) (.bool _))
  unfold g_Contains_string_string at h
  unfold ac81
  obtain ⟨p2, e1, h⟩ := bind_E h
  try refine gos_ ?_
  refine mcall_pure (g_Index_string_string_c e1) ?_
  obtain rfl := som_E h
  try refine gos_ ?_
  exact (.pure _ (.bool _))
def g_HasPrefix_179 (s_0 : Str) (prefix_1 : Str) : Option Bool :=
  cond (decide ((s_0.length : Int) ≥ (prefix_1.length : Int))) (if prefix_1.length ≤ s_0.length then some ((s_0.take prefix_1.length) == prefix_1) else none) (some false)
theorem g_HasPrefix_179_c {s_0 : Str} {prefix_1 : Str} {r : Bool} (h : g_HasPrefix_179 s_0 prefix_1 = some r) : PCall Tryz.prog 179 [(.str s_0), (.str prefix_1)] (.bool r) := by
  refine PCall.of_empty (PuL.mem (.cons (.str _) (.cons (.str _) .nil))) (MCall_of_W ok179 (by simp) (W_start ?_)) (.bool _)
  unfold g_HasPrefix_179 at h
  unfold ac179
  rcases cond_E h with ⟨e1, h⟩ | ⟨e1, h⟩
  ·obtain ⟨e2, h⟩ := if_E h
   obtain rfl := som_E h
   try refine gos_ ?_
   exact (.pure _ (.bool _))
  ·obtain rfl := som_E h
   try refine gos_ ?_
   exact (.pure _ (.bool _))
def g_HasPrefix_125 (s_0 : Str) (prefix_1 : Str) : Option Bool :=
  Option.bind (g_HasPrefix_179 s_0 prefix_1) fun p2 => some p2
theorem g_HasPrefix_125_c {s_0 : Str} {prefix_1 : Str} {r : Bool} (h : g_HasPrefix_125 s_0 prefix_1 = some r) : PCall Tryz.prog 125 [(.str s_0), (.str prefix_1)] (.bool r) := by
  refine PCall.of_empty (PuL.mem (.cons (.str _) (.cons (.str _) .nil))) (MCall_of_W ok125 (by simp) (W_start ?_)) (.bool _)
  unfold g_HasPrefix_125 at h
  unfold ac125
  obtain ⟨p2, e1, h⟩ := bind_E h
  try refine gos_ ?_
  refine mcall_pure (g_HasPrefix_179_c e1) ?_
  obtain rfl := som_E h
  try refine gos_ ?_
  exact (.pure _ (.bool _))
def t_isFixed (s_0 : Str) : Option Bool :=
  cond (s_0 == ([84, 82, 85, 69] : Str)) (some true) (cond (s_0 == ([70, 65, 76, 83, 69] : Str)) (some true) (cond (s_0 == ([66, 79, 79, 76, 69, 65, 78] : Str)) (some true) (some (s_0 == ([83, 84, 82, 73, 78, 71] : Str)))))
theorem t_isFixed_c {s_0 : Str} {r : Bool} (h : t_isFixed s_0 = some r) : PCall Tryz.prog 129 [(.str s_0)] (.bool r) := by
  refine PCall.of_empty (PuL.mem (.cons (.str _) .nil)) (MCall_of_W ok129 (by simp) (W_start ?_)) (.bool _)
  unfold t_isFixed at h
  unfold ac129
  rcases cond_E h with ⟨e1, h⟩ | ⟨e1, h⟩
  ·obtain rfl := som_E h
   try refine gos_ ?_
   exact (.pure _ (.bool _))
  ·rcases cond_E h with ⟨e2, h⟩ | ⟨e2, h⟩
   ·obtain rfl := som_E h
    try refine gos_ ?_
    exact (.pure _ (.bool _))
   ·rcases cond_E h with ⟨e3, h⟩ | ⟨e3, h⟩
    ·obtain rfl := som_E h
     try refine gos_ ?_
     exact (.pure _ (.bool _))
    ·obtain rfl := som_E h
     try refine gos_ ?_
     exact (.pure _ (.bool _))
def t_begin (e_0 : List Nd) (i_1 : Int) (begins_2 : List Int) : Option Int :=
  if 0 ≤ i_1 then Option.bind (e_0[i_1.toNat]?) fun x2 => cond ((x2.args.length : Int) == 0) (some i_1) (Option.bind (x2.args[0]?) fun x5 => if 0 ≤ x5 then Option.bind (begins_2[x5.toNat]?) fun x8 => some x8 else none) else none
theorem t_begin_c {e_0 : List Nd} {i_1 : Int} {begins_2 : List Int} {c0 c2 : Ck} {r : Int} (h : t_begin e_0 i_1 begins_2 = some r) : PCall Tryz.prog 49 [(.isl (e_0.map Nd.cells) c0), (.int .i64 i_1), (.isl (begins_2.map intL) c2)] (.int .i64 r) := by
  refine PCall.lw (.isl (.same (.isl .nil))) (PCall.of_empty (PuL.mem (.cons (pu_sl Nd.pu _) (.cons (.int _ _) (.cons (pu_sl pu_intL _) .nil)))) (MCall_of_W ok49 (by simp) (W_start ?_)) (.int _ _))
  unfold t_begin at h
  unfold ac49
  obtain ⟨e1, h⟩ := if_E h
  obtain ⟨x2, e3, h⟩ := bind_E h
  rcases cond_E h with ⟨e4, h⟩ | ⟨e4, h⟩
  ·obtain rfl := som_E h
   try refine gos_ ?_
   exact (.pure _ (.int _ _))
  ·obtain ⟨x5, e6, h⟩ := bind_E h
   obtain ⟨e7, h⟩ := if_E h
   obtain ⟨x8, e9, h⟩ := bind_E h
   obtain rfl := som_E h
   try refine gos_ ?_
   exact (.pure _ (.int _ _))
def t_shapeOf_1 (names_0 : Int) (operands_1 : Int) : Option Shape :=
  some (Shape.mk (names_0, names_0) (operands_1, operands_1) false false)
theorem t_shapeOf_1_c {names_0 : Int} {operands_1 : Int} {r : Shape} (h : t_shapeOf_1 names_0 operands_1 = some r) : PCall Tryz.prog 140 [(.int .i64 names_0), (.int .i64 operands_1)] (.agg (Shape.cells r)) := by
  refine PCall.of_empty (PuL.mem (.cons (.int _ _) (.cons (.int _ _) .nil))) (MCall_of_W ok140 (by simp) (W_start ?_)) (.agg _ (Shape.pu _))
  unfold t_shapeOf_1 at h
  unfold ac140
  obtain rfl := som_E h
  try refine gos_ ?_
  exact (fz_agg (.cons (.pure _ (.int _ _)) (.cons (.pure _ (.int _ _)) (.cons (.pure _ (.int _ _)) (.cons (.pure _ (.int _ _)) (.cons (.pure _ (.bool _)) (.cons (.pure _ (.bool _)) .nil)))))))
def g_Index_int_int_b0 : Nat → (List Int) → Int → Int → Int → Option (Unit ⊕ Int)
  | 0, _, _, _, _ => none
  | k + 1, s_0, v_1, t_7, t_8 =>
    cond (decide (t_8 < t_7)) (if 0 ≤ t_8 then Option.bind (s_0[t_8.toNat]?) fun x3 => cond (v_1 == x3) (some (.inr (t_8))) (g_Index_int_int_b0 k s_0 v_1 t_7 (IntKind.wrap .i64 (t_8 + 1))) else none) (some (.inl ()))
def g_Index_int_int_b0l : List Nat := [4, 5, 8, 9, 10, 11, 12, 13, 14, 15, 16, 17, 18]
theorem g_Index_int_int_b0_W : ∀ (k : Nat) (s_0 : List Int) (v_1 : Int) (t_7 : Int) (t_8 : Int) (σ0 σ : Nat → PV) (H : AH) (f0 : Fr g_Index_int_int_b0l σ0 σ) (sl : σ 0 = (.isl (s_0.map intL) .unk) ∧ σ 1 = (.int .i64 v_1) ∧ σ 7 = (.int .i64 t_7) ∧ σ 8 = (.int .i64 t_8)) (o : Unit ⊕ Int) (h : g_Index_int_int_b0 k s_0 v_1 t_7 t_8 = some o) (Q : Post) (q0 : ∀ (p : Unit) (σ' : Nat → PV), o = .inl p → Fr g_Index_int_int_b0l σ0 σ' → Q (.exit 0) σ' H) (q1 : ∀ (p : Int) (σ' : Nat → PV), o = .inr (p) → Fr g_Index_int_int_b0l σ0 σ' → (σ' 4 = (.int .i64 p)) → Q .ret σ' H) , W Tryz.prog (.loop ac190_b0) Q σ H := by
  intro k
  induction k with
  | zero => intro s_0 v_1 t_7 t_8 σ0 σ H f0 sl o h Q q0 q1; simp only [g_Index_int_int_b0, reduceCtorEq] at h
  | succ k ih =>
    intro s_0 v_1 t_7 t_8 σ0 σ H f0 sl o h Q q0 q1
    obtain ⟨s0, s1, s7, s8⟩ := sl
    unfold g_Index_int_int_b0 at h
    refine W_loopK (fun K hK => W_start ?_)
    unfold ac190_b0
    rcases cond_E h with ⟨e1, h⟩ | ⟨e1, h⟩
    ·obtain ⟨e2, h⟩ := if_E h
     obtain ⟨x3, e4, h⟩ := bind_E h
     rcases cond_E h with ⟨e5, h⟩ | ⟨e5, h⟩
     ·obtain rfl := som_E h
      try refine gos_ ?_
      exact q1 _ _ rfl fr_ sls_
     ·try refine gos_ ?_
      refine hK _ _ ?_
      exact ih s_0 v_1 t_7 (IntKind.wrap .i64 (t_8 + 1)) _ _ _ fr_ sls_ _ h _ q0 q1
    ·obtain rfl := som_E h
     try refine gos_ ?_
     exact q0 _ _ rfl fr_
def g_Index_int_int (k : Nat) (s_0 : List Int) (v_1 : Int) : Option Int :=
  Option.bind (g_Index_int_int_b0 k s_0 v_1 (s_0.length : Int) 0) (fun o => Sum.elim (fun p8 => some (-1)) (fun p12 => some p12) o)
theorem g_Index_int_int_c {k : Nat} {s_0 : List Int} {v_1 : Int} {c0 : Ck} {r : Int} (h : g_Index_int_int k s_0 v_1 = some r) : PCall Tryz.prog 190 [(.isl (s_0.map intL) c0), (.int .i64 v_1)] (.int .i64 r) := by
  refine PCall.lw (.isl (.same .nil)) (PCall.of_empty (PuL.mem (.cons (pu_sl pu_intL _) (.cons (.int _ _) .nil))) (MCall_of_W ok190 (by simp) (W_start ?_)) (.int _ _))
  unfold g_Index_int_int at h
  unfold ac190
  try refine gos_ ?_
  obtain ⟨o6, h7, h⟩ := bind_E h
  refine g_Index_int_int_b0_W k s_0 v_1 (s_0.length : Int) 0 _ _ _ (Fr.refl _ _) sls_ _ h7 _ ?_ ?_
  ·rintro p8 σ' eo fr9
   subst eo
   rw [sum_L] at h
   obtain rfl := som_E h
   try refine gos_ ?_
   exact (.pure _ (.int _ _))
  ·rintro p12 σ' eo fr13 s16
   subst eo
   rw [sum_R] at h
   obtain rfl := som_E h
   try refine gos_ ?_
   exact (.pure _ (.int _ _))
def g_Contains_int_int (k : Nat) (s_0 : List Int) (v_1 : Int) : Option Bool :=
  Option.bind (g_Index_int_int k s_0 v_1) fun p2 => some (decide (p2 ≥ 0))
theorem g_Contains_int_int_c {k : Nat} {s_0 : List Int} {v_1 : Int} {c0 : Ck} {r : Bool} (h : g_Contains_int_int k s_0 v_1 = some r) : PCall Tryz.prog 149 [(.isl (s_0.map intL) c0), (.int .i64 v_1)] (.bool r) := by
  refine PCall.lw (.isl (.same .nil)) (PCall.of_empty (PuL.mem (.cons (pu_sl pu_intL _) (.cons (.int _ _) .nil))) (MCall_of_W ok149 (by simp) (W_start ?_)) (.bool _))
  unfold g_Contains_int_int at h
  unfold ac149
  obtain ⟨p2, e1, h⟩ := bind_E h
  try refine gos_ ?_
  refine mcall_pure (g_Index_int_int_c e1) ?_
  obtain rfl := som_E h
  try refine gos_ ?_
  exact (.pure _ (.bool _))
def t_isOpen (k : Nat) (kind_0 : Int) : Option Bool :=
  Option.bind (g_Contains_int_int k [8, 9, 10, 11, 12, 21, 22, 23, 24] kind_0) fun p2 => some p2
theorem t_isOpen_c {k : Nat} {kind_0 : Int} {r : Bool} (h : t_isOpen k kind_0 = some r) : PCall Tryz.prog 98 [(.int .i64 kind_0)] (.bool r) := by
  refine PCall.of_empty (PuL.mem (.cons (.int _ _) .nil)) (MCall_of_W ok98 (by simp) (W_start ?_)) (.bool _)
  unfold t_isOpen at h
  unfold ac98
  obtain ⟨p2, e1, h⟩ := bind_E h
  try refine gos_ ?_
  refine mcall_pure (g_Contains_int_int_c e1) ?_
  obtain rfl := som_E h
  try refine gos_ ?_
  exact (.pure _ (.bool _))
def b_EqualTexts_b0 : Nat → (List Str) → (List Str) → Int → Option (Unit ⊕ Bool)
  | 0, _, _, _ => none
  | k + 1, a_0, b_1, i_5 =>
    cond (decide (i_5 < (a_0.length : Int))) (if 0 ≤ i_5 then Option.bind (a_0[i_5.toNat]?) fun x4 => Option.bind (b_1[i_5.toNat]?) fun x6 => cond (x4 == x6) (b_EqualTexts_b0 k a_0 b_1 (IntKind.wrap .i64 (i_5 + 1))) (some (.inr (false))) else none) (some (.inl ()))
def b_EqualTexts_b0l : List Nat := [4, 5, 11, 12, 13, 14, 15, 16, 17, 18, 19, 20, 21, 22, 23, 24, 25]
theorem b_EqualTexts_b0_W : ∀ (k : Nat) (a_0 : List Str) (b_1 : List Str) (i_5 : Int) (σ0 σ : Nat → PV) (H : AH) (f0 : Fr b_EqualTexts_b0l σ0 σ) (sl : σ 0 = (.isl (a_0.map strL) .unk) ∧ σ 1 = (.isl (b_1.map strL) .unk) ∧ σ 5 = (.int .i64 i_5)) (o : Unit ⊕ Bool) (h : b_EqualTexts_b0 k a_0 b_1 i_5 = some o) (Q : Post) (q0 : ∀ (p : Unit) (σ' : Nat → PV), o = .inl p → Fr b_EqualTexts_b0l σ0 σ' → Q (.exit 0) σ' H) (q1 : ∀ (p : Bool) (σ' : Nat → PV), o = .inr (p) → Fr b_EqualTexts_b0l σ0 σ' → (σ' 4 = (.bool p)) → Q .ret σ' H) , W Tryz.prog (.loop ac29_b0) Q σ H := by
  intro k
  induction k with
  | zero => intro a_0 b_1 i_5 σ0 σ H f0 sl o h Q q0 q1; simp only [b_EqualTexts_b0, reduceCtorEq] at h
  | succ k ih =>
    intro a_0 b_1 i_5 σ0 σ H f0 sl o h Q q0 q1
    obtain ⟨s0, s1, s5⟩ := sl
    unfold b_EqualTexts_b0 at h
    refine W_loopK (fun K hK => W_start ?_)
    unfold ac29_b0
    rcases cond_E h with ⟨e2, h⟩ | ⟨e2, h⟩
    ·try refine gos_ ?_
     refine WS_parS ?_
     obtain ⟨e3, h⟩ := if_E h
     obtain ⟨x4, e5, h⟩ := bind_E h
     obtain ⟨x6, e7, h⟩ := bind_E h
     rcases cond_E h with ⟨e8, h⟩ | ⟨e8, h⟩
     ·try refine gos_ ?_
      refine hK _ _ ?_
      exact ih a_0 b_1 (IntKind.wrap .i64 (i_5 + 1)) _ _ _ fr_ sls_ _ h _ q0 q1
     ·obtain rfl := som_E h
      try refine gos_ ?_
      exact q1 _ _ rfl fr_ sls_
    ·obtain rfl := som_E h
     try refine gos_ ?_
     exact q0 _ _ rfl fr_
def b_EqualTexts (k : Nat) (a_0 : List Str) (b_1 : List Str) : Option Bool :=
  cond ((a_0.length : Int) != (b_1.length : Int)) (some false) (Option.bind (b_EqualTexts_b0 k a_0 b_1 0) (fun o => Sum.elim (fun p11 => some true) (fun p15 => some p15) o))
theorem b_EqualTexts_c {k : Nat} {a_0 : List Str} {b_1 : List Str} {c0 c1 : Ck} {r : Bool} (h : b_EqualTexts k a_0 b_1 = some r) : PCall Tryz.prog 29 [(.isl (a_0.map strL) c0), (.isl (b_1.map strL) c1)] (.bool r) := by
  refine PCall.lw (.isl (.isl .nil)) (PCall.of_empty (PuL.mem (.cons (pu_sl pu_strL _) (.cons (pu_sl pu_strL _) .nil))) (MCall_of_W ok29 (by simp) (W_start ?_)) (.bool _))
  unfold b_EqualTexts at h
  unfold ac29
  rcases cond_E h with ⟨e1, h⟩ | ⟨e1, h⟩
  ·obtain rfl := som_E h
   try refine gos_ ?_
   exact (.pure _ (.bool _))
  ·try refine gos_ ?_
   obtain ⟨o9, h10, h⟩ := bind_E h
   refine b_EqualTexts_b0_W k a_0 b_1 0 _ _ _ (Fr.refl _ _) sls_ _ h10 _ ?_ ?_
   ·rintro p11 σ' eo fr12
    subst eo
    rw [sum_L] at h
    obtain rfl := som_E h
    try refine gos_ ?_
    exact (.pure _ (.bool _))
   ·rintro p15 σ' eo fr16 s19
    subst eo
    rw [sum_R] at h
    obtain rfl := som_E h
    try refine gos_ ?_
    exact (.pure _ (.bool _))
def t_binds_j0 (t_13 : Int) : Option Bool :=
  cond (t_13 == 6) (some ((t_13 == 6))) (cond (t_13 == 12) (some ((t_13 == 12))) (cond (t_13 == 7) (some ((t_13 == 7))) (cond (t_13 == 8) (some ((t_13 == 8))) (cond (t_13 == 9) (some ((t_13 == 9))) (cond (t_13 == 13) (some ((t_13 == 13))) (cond (t_13 == 10) (some ((t_13 == 10))) (cond (t_13 == 11) (some ((t_13 == 11))) (some ((t_13 == 24))))))))))
def t_binds_j0l : List Nat := [14, 15, 16, 17, 18, 19, 20, 21, 22, 23]
theorem t_binds_j0_W : ∀ (t_13 : Int) (σ0 σ : Nat → PV) (H : AH) (f0 : Fr t_binds_j0l σ0 σ) (sl : σ 13 = (.int .i64 t_13)) (o : Bool) (h : t_binds_j0 t_13 = some o) (Q : Post) (q0 : ∀ (p : Bool) (σ' : Nat → PV), o = p → Fr t_binds_j0l σ0 σ' → (σ' 14 = (.bool p)) → Q .normal σ' H) , W Tryz.prog ac121_j0 Q σ H := by
  intro t_13 σ0 σ H f0 sl o h Q q0
  have s13 := sl
  unfold t_binds_j0 at h
  refine W_start ?_
  unfold ac121_j0
  rcases cond_E h with ⟨e1, h⟩ | ⟨e1, h⟩
  ·obtain rfl := som_E h
   try refine gos_ ?_
   exact q0 _ _ rfl fr_ sls_
  ·rcases cond_E h with ⟨e2, h⟩ | ⟨e2, h⟩
   ·obtain rfl := som_E h
    try refine gos_ ?_
    exact q0 _ _ rfl fr_ sls_
   ·rcases cond_E h with ⟨e3, h⟩ | ⟨e3, h⟩
    ·obtain rfl := som_E h
     try refine gos_ ?_
     exact q0 _ _ rfl fr_ sls_
    ·rcases cond_E h with ⟨e4, h⟩ | ⟨e4, h⟩
     ·obtain rfl := som_E h
      try refine gos_ ?_
      exact q0 _ _ rfl fr_ sls_
     ·rcases cond_E h with ⟨e5, h⟩ | ⟨e5, h⟩
      ·obtain rfl := som_E h
       try refine gos_ ?_
       exact q0 _ _ rfl fr_ sls_
      ·rcases cond_E h with ⟨e6, h⟩ | ⟨e6, h⟩
       ·obtain rfl := som_E h
        try refine gos_ ?_
        exact q0 _ _ rfl fr_ sls_
       ·rcases cond_E h with ⟨e7, h⟩ | ⟨e7, h⟩
        ·obtain rfl := som_E h
         try refine gos_ ?_
         exact q0 _ _ rfl fr_ sls_
        ·rcases cond_E h with ⟨e8, h⟩ | ⟨e8, h⟩
         ·obtain rfl := som_E h
          try refine gos_ ?_
          exact q0 _ _ rfl fr_ sls_
         ·obtain rfl := som_E h
          try refine gos_ ?_
          exact q0 _ _ rfl fr_ sls_
def t_binds (n_0 : Nd) (place_1 : Int) : Option (List Str) :=
  Option.bind (t_binds_j0 n_0.kind) (fun p11 => cond p11 (cond (place_1 == (IntKind.wrap .i64 ((n_0.args.length : Int) - 1))) (some n_0.names) (some [])) (cond (n_0.kind == 23) (cond (place_1 == (IntKind.wrap .i64 ((n_0.args.length : Int) - 1))) (if 1 ≤ n_0.names.length then some (n_0.names.take 1) else none) (cond (n_0.n == 1) (some n_0.names) (if 1 ≤ n_0.names.length then some (n_0.names.drop 1) else none))) (some [])))
theorem t_binds_c {n_0 : Nd} {place_1 : Int} {r : List Str} (h : t_binds n_0 place_1 = some r) : PCall Tryz.prog 121 [(.agg (Nd.cells n_0)), (.int .i64 place_1)] (.isl (r.map strL) .unk) := by
  refine PCall.of_empty (PuL.mem (.cons (.agg _ (Nd.pu _)) (.cons (.int _ _) .nil))) (MCall_of_W ok121 (by simp) (W_start ?_)) (pu_sl pu_strL _)
  unfold t_binds at h
  unfold ac121
  try refine gos_ ?_
  obtain ⟨o9, h10, h⟩ := bind_E h
  refine t_binds_j0_W n_0.kind _ _ _ (Fr.refl _ _) sls_ _ h10 _ ?_
  ·rintro p11 σ' eo fr12 s15
   rw [eo] at h
   have s16 : σ' 2 = (.ref (AH.empty.next) 0) := (fr12 2 (by decide)).trans sls_
   have s17 : σ' 5 = (.bool (place_1 == (IntKind.wrap .i64 ((n_0.args.length : Int) - 1)))) := (fr12 5 (by decide)).trans sls_
   have s18 : σ' 13 = (.int .i64 n_0.kind) := (fr12 13 (by decide)).trans sls_
   rcases cond_E h with ⟨e19, h⟩ | ⟨e19, h⟩
   ·rcases cond_E h with ⟨e20, h⟩ | ⟨e20, h⟩
    ·obtain rfl := som_E h
     try refine gos_ ?_
     exact (fz_sl pu_strL n_0.names _)
    ·obtain rfl := som_E h
     try refine gos_ ?_
     exact (fz_sl pu_strL [] _)
   ·rcases cond_E h with ⟨e21, h⟩ | ⟨e21, h⟩
    ·rcases cond_E h with ⟨e22, h⟩ | ⟨e22, h⟩
     ·obtain ⟨e23, h⟩ := if_E h
      obtain rfl := som_E h
      try refine gos_ ?_
      exact (fz_sl pu_strL (n_0.names.take 1) _)
     ·rcases cond_E h with ⟨e24, h⟩ | ⟨e24, h⟩
      ·obtain rfl := som_E h
       try refine gos_ ?_
       exact (fz_sl pu_strL n_0.names _)
      ·obtain ⟨e25, h⟩ := if_E h
       obtain rfl := som_E h
       try refine gos_ ?_
       exact (fz_sl pu_strL (n_0.names.drop 1) _)
    ·obtain rfl := som_E h
     try refine gos_ ?_
     exact (fz_sl pu_strL [] _)
end Go.VL
end
section
namespace Go.VL
theorem down {p : Nat → Prop} {len : Nat} (h0 : p len) (h1 : ∀ i, i < len → p (i + 1) → p i) : ∀ i, i ≤ len → p i := by
  intro i hi
  obtain ⟨n, rfl⟩ : ∃ n, len = i + n := ⟨len - i, by omega⟩
  induction n generalizing i with
  | zero => exact h0
  | succ n ih => exact h1 i (by omega) (ih (i + 1) (by rw [Nat.add_right_comm]; exact h0) (by rw [Nat.add_right_comm]; exact h1) (by omega))
theorem down0 {p : Nat → Prop} {len : Nat} (h0 : p len) (h1 : ∀ i, i < len → p (i + 1) → p i) : p 0 := down h0 h1 0 (Nat.zero_le _)
theorem wsucc {i n : Nat} (hi : i < n) (hn : n ≤ 1099511627776) : IntKind.wrap .i64 ((i : Int) + 1) = ((i + 1 : Nat) : Int) := by rw [wrap64 (by omega) (by omega)]; omega
theorem dlt {i n : Nat} (h : i < n) : decide ((i : Int) < (n : Int)) = true := decide_eq_true (by omega)
theorem dnlt (n : Nat) : decide ((n : Int) < (n : Int)) = false := decide_eq_false (by omega)
theorem nn (i : Nat) : (0 : Int) ≤ (i : Int) := by omega
theorem b_One_eq (b : Bool) : b_One b = some (if b = true then 1 else 0) := by cases b <;> rfl
theorem t_wrong_eq (b : Bool) (c : Int) : t_wrong b c = some (if b = true then c else 0) := by cases b <;> rfl
theorem mem_drop {α : Type} {l : List α} {i : Nat} (h : i < l.length) {s : α} : s ∈ l.drop i ↔ l[i] = s ∨ s ∈ l.drop (i + 1) := by
  rw [List.drop_eq_getElem_cons h, List.mem_cons]
  exact or_congr_left eq_comm
theorem b_Contains_ev (l : List Str) (s : Str) (hl : l.length ≤ 1099511627776) : Ev (fun k => b_Contains k l s) (decide (s ∈ l)) := by
  have key : Ev (fun k => b_Contains_b0 k l s ((0 : Nat) : Int)) (if s ∈ l.drop 0 then .inr true else .inl ()) := by
    refine down0 (len := l.length) (p := fun i => Ev (fun k => b_Contains_b0 k l s (i : Int)) (if s ∈ l.drop i then .inr true else .inl ())) ?_ fun i hi ih => ?_
    · refine Ev.succ ?_
      simp only [b_Contains_b0]
      refine Ev.cF (dnlt _) (Ev.some' ?_)
      simp
    · refine Ev.succ ?_
      simp only [b_Contains_b0, Int.toNat_natCast, getE hi, Option.bind_some, nn, if_true, dlt hi, cond_true, wsucc hi hl]
      by_cases h : l[i] = s
      · refine Ev.cT (by rw [beq_iff_eq]; exact h) (Ev.some' ?_)
        rw [if_pos ((mem_drop hi).2 (.inl h))]
      · refine Ev.cF (by rw [beq_eq_false_iff_ne]; exact h) (ih.to ?_)
        simp only [mem_drop hi, h, false_or]
  unfold b_Contains
  refine Ev.bind key ?_
  rw [List.drop_zero]
  by_cases h : s ∈ l
  · simp only [h, if_true, sum_R, decide_true]; exact Ev.some
  · simp only [h, if_false, sum_L, decide_false]; exact Ev.some
theorem b_EqualTexts_ev (a b : List Str) (hl : a.length ≤ 1099511627776) : Ev (fun k => b_EqualTexts k a b) (decide (a = b)) := by
  unfold b_EqualTexts
  by_cases hab : a.length = b.length
  · refine Ev.cF (by simp [hab]) ?_
    have key : Ev (fun k => b_EqualTexts_b0 k a b ((0 : Nat) : Int)) (if a.drop 0 = b.drop 0 then .inl () else .inr false) := by
      refine down0 (len := a.length) (p := fun i => Ev (fun k => b_EqualTexts_b0 k a b (i : Int)) (if a.drop i = b.drop i then .inl () else .inr false)) ?_ fun i hi ih => ?_
      · refine Ev.succ ?_
        simp only [b_EqualTexts_b0]
        refine Ev.cF (dnlt _) (Ev.some' ?_)
        simp [hab]
      · have hi' : i < b.length := hab ▸ hi
        refine Ev.succ ?_
        simp only [b_EqualTexts_b0, Int.toNat_natCast, getE hi, getE hi', Option.bind_some, nn, if_true, dlt hi, cond_true, wsucc hi hl]
        by_cases h : a[i] = b[i]
        · refine Ev.cT (by rw [beq_iff_eq]; exact h) (ih.to ?_)
          have : List.drop i a = a[i] :: List.drop (i + 1) a := List.drop_eq_getElem_cons hi
          have : List.drop i b = b[i] :: List.drop (i + 1) b := List.drop_eq_getElem_cons hi'
          simp only [*, List.cons.injEq, true_and]
        · refine Ev.cF (by rw [beq_eq_false_iff_ne]; exact h) (Ev.some' ?_)
          have e1 : List.drop i a = a[i] :: List.drop (i + 1) a := List.drop_eq_getElem_cons hi
          have e2 : List.drop i b = b[i] :: List.drop (i + 1) b := List.drop_eq_getElem_cons hi'
          rw [if_neg]
          intro e
          rw [e1, e2, List.cons.injEq] at e
          exact h e.1
    refine Ev.bind key ?_
    by_cases h : a = b
    · subst h; simp only [if_true, sum_L, decide_true]; exact Ev.some
    · simp only [List.drop_zero, h, if_false, sum_R, decide_false]; exact Ev.some
  · refine Ev.cT (by simp; omega) (Ev.some' ?_)
    exact (decide_eq_false fun e => hab (by rw [e])).symm
def opNone : Operator := Operator.mk [] 0 0 0 false 0 0
def opIn (l : List Operator) (t : Str) : Operator × Bool := match l with
  | [] => (opNone, false)
  | o :: l => if o.text = t then (o, true) else opIn l t
def opMk (x : Operator) : Operator := Operator.mk x.text x.fix x.low x.high x.left (if x.fix = 1 then 2 else 1) (if x.text = [92, 88] then 4 else if x.fix = 1 then 2 else 1)
theorem r_Table_b0_ev (add : List Operator) (hl : add.length ≤ 1000) : ∀ i, i ≤ add.length → ∀ out : List Operator, out.length = i → Ev (fun k => r_Table_b0 k out add (i : Int)) (out ++ (add.drop i).map opMk) := by
  refine down (p := fun i => ∀ out : List Operator, out.length = i → Ev (fun k => r_Table_b0 k out add (i : Int)) (out ++ (add.drop i).map opMk)) ?_ fun i hi ih out ho => ?_
  · intro out ho
    refine Ev.succ ?_
    simp only [r_Table_b0]
    refine Ev.cF (dnlt _) (Ev.some' ?_)
    simp
  · refine Ev.succ ?_
    simp only [r_Table_b0, Int.toNat_natCast, getE hi, Option.bind_some, nn, if_true, dlt hi, cond_true, wsucc hi (by omega), b_One_eq]
    have e1 : (out.length + 1) * 64 ≤ 1099511627776 := by omega
    have e2 : IntKind.wrap .i64 (1 + if (add[i].fix == 1) = true then 1 else 0) = if add[i].fix = 1 then 2 else 1 := by
      by_cases h : add[i].fix = 1
      · simp [h]; rfl
      · simp [h]; rfl
    simp only [if_pos e1, e2]
    by_cases h : add[i].text = [92, 88]
    · refine Ev.cT (by rw [beq_iff_eq]; exact h) ((ih _ (by simp [ho])).to ?_)
      rw [List.drop_eq_getElem_cons hi, List.map_cons, List.append_assoc]
      simp [opMk, h]
    · refine Ev.cF (by rw [beq_eq_false_iff_ne]; exact h) ((ih _ (by simp [ho])).to ?_)
      rw [List.drop_eq_getElem_cons hi, List.map_cons, List.append_assoc]
      simp [opMk, h]
def tabR : List Operator := (r_Table 60).getD []
theorem r_Table_ev : Ev (fun k => r_Table k) tabR := by
  unfold r_Table
  exact Ev.bind (r_Table_b0_ev _ (by simp) 0 (Nat.zero_le _) [] rfl) (Ev.some' (by kernel_rfl))
theorem r_OperatorOf_ev (t : Str) : Ev (fun k => r_OperatorOf k t) (opIn tabR t) := by
  have hlen : tabR.length ≤ 1099511627776 := by have : tabR.length = 42 := by kernel_rfl
                                                omega
  have key : ∀ (l : List Operator), l.length ≤ 1099511627776 → Ev (fun k => r_OperatorOf_b0 k t ([] : Str) 0 0 0 false 0 0 l ((0 : Nat) : Int)) (match opIn (l.drop 0) t with | (o, true) => .inr (true, o.text, o.fix, o.low, o.high, o.left, o.least, o.most) | (_, false) => .inl (([] : Str), 0, 0, 0, false, 0, 0)) := by
    intro l hl
    refine down0 (len := l.length) (p := fun i => Ev (fun k => r_OperatorOf_b0 k t ([] : Str) 0 0 0 false 0 0 l (i : Int)) (match opIn (l.drop i) t with | (o, true) => .inr (true, o.text, o.fix, o.low, o.high, o.left, o.least, o.most) | (_, false) => .inl (([] : Str), 0, 0, 0, false, 0, 0))) ?_ fun i hi ih => ?_
    · refine Ev.succ ?_
      simp only [r_OperatorOf_b0]
      refine Ev.cF (dnlt _) (Ev.some' ?_)
      simp [opIn]
    · refine Ev.succ ?_
      simp only [r_OperatorOf_b0, Int.toNat_natCast, getE hi, Option.bind_some, nn, if_true, dlt hi, cond_true, wsucc hi hl]
      have e1 : List.drop i l = l[i] :: List.drop (i + 1) l := List.drop_eq_getElem_cons hi
      by_cases h : l[i].text = t
      · refine Ev.cT (by rw [beq_iff_eq]; exact h) (Ev.some' ?_)
        rw [e1, opIn, if_pos h]
      · refine Ev.cF (by rw [beq_eq_false_iff_ne]; exact h) (ih.to ?_)
        rw [e1, opIn, if_neg h]
  have hk := key tabR hlen
  rw [List.drop_zero] at hk
  unfold r_OperatorOf
  refine Ev.bind r_Table_ev (Ev.bind hk ?_)
  have hno : ∀ l : List Operator, (opIn l t).2 = false → (opIn l t).1 = opNone := by
    intro l
    induction l with
    | nil => intro _; rfl
    | cons o l ih =>
      intro h
      rw [opIn] at h ⊢
      by_cases e : o.text = t
      · rw [if_pos e] at h; cases h
      · rw [if_neg e] at h ⊢; exact ih h
  have := hno tabR
  generalize opIn tabR t = r at this
  obtain ⟨o, b⟩ := r
  cases b with
  | true => simp only [sum_R]; exact Ev.some
  | false => simp only [sum_L]; exact Ev.some' (by rw [show o = opNone from this rfl]; rfl)
end Go.VL
end
section
namespace Go.VL
def rsv : List Str := b_Reserved.getD []
theorem b_Reserved_eq : b_Reserved = some rsv := rfl
theorem drop_cons {α : Type} {l : List α} {i : Nat} (h : i < l.length) : List.drop i l = l[i] :: List.drop (i + 1) l := List.drop_eq_getElem_cons h
end Go.VL
end
section
namespace Go.VL
theorem chunks_flat' {sz : Nat} : ∀ (es : List (List PV)) (rest : List PV), (∀ cs ∈ es, cs.length = sz) → chunks sz es.length (es.flatten ++ rest) = es
  | [], rest, _ => by simp [chunks]
  | c :: es, rest, h => by
    have hc := h c (List.mem_cons_self ..)
    have ih := chunks_flat' es rest fun cs hcs => h cs (List.mem_cons_of_mem _ hcs)
    unfold chunks at ih ⊢
    rw [List.length_cons, List.range_succ_eq_map, List.map_cons, List.map_map, List.flatten_cons, List.append_assoc]
    congr 1
    · rw [Nat.zero_mul, List.drop_zero, ← hc, List.take_left]
    · conv => rhs; rw [← ih]
      refine List.map_congr_left fun i _ => ?_
      simp only [Function.comp]
      rw [show (i + 1) * sz = sz + i * sz by rw [Nat.add_mul, Nat.one_mul, Nat.add_comm], ← List.drop_drop]
      congr 2
      rw [← hc, List.drop_left]
theorem flat_length {α : Type} {sz : Nat} {f : α → List PV} (hf : ∀ x, (f x).length = sz) : ∀ l : List α, ((l.map f).flatten).length = l.length * sz
  | [] => by simp
  | x :: l => by rw [List.map_cons, List.flatten_cons, List.length_append, hf, flat_length hf l, List.length_cons, Nat.succ_mul, Nat.add_comm]
theorem flat_drop {α : Type} {sz : Nat} {f : α → List PV} (hf : ∀ x, (f x).length = sz) : ∀ (l : List α) (i : Nat), ((l.map f).flatten).drop (i * sz) = ((l.drop i).map f).flatten
  | l, 0 => by simp
  | [], i + 1 => by simp
  | x :: l, i + 1 => by
    rw [List.map_cons, List.flatten_cons, Nat.succ_mul, Nat.add_comm, ← List.drop_drop]
    have : List.drop sz (f x ++ (l.map f).flatten) = (l.map f).flatten := by rw [← hf x, List.drop_left]
    rw [this, flat_drop hf l i, List.drop_succ_cons]
theorem putCells_mid (A fa B vs : List PV) {j : Nat} (h : j + vs.length ≤ fa.length) : putCells (A ++ (fa ++ B)) (A.length + j) vs = A ++ (putCells fa j vs ++ B) := by
  have h1 : j - fa.length = 0 := by omega
  have h2 : A.length + j + vs.length - A.length = j + vs.length := by omega
  have h3 : j + vs.length - fa.length = 0 := by omega
  have h4 : A.take (A.length + j) = A := List.take_of_length_le (by omega)
  have h5 : A.drop (A.length + j + vs.length) = [] := List.drop_eq_nil_of_le (by omega)
  have h6 : A.length + j - A.length = j := by omega
  simp only [putCells, List.take_append, List.drop_append, h1, h2, h3, h4, h5, h6, List.take_zero, List.drop_zero, List.append_nil, List.nil_append, List.append_assoc]
theorem flat_len' (z : List PV) : ∀ n, ((List.replicate n z).flatten).length = n * z.length
  | 0 => by simp
  | n + 1 => by rw [List.replicate_succ, List.flatten_cons, List.length_append, flat_len' z n, Nat.add_mul, Nat.one_mul, Nat.add_comm]
theorem drop_get {α : Type} {l : List α} {i : Nat} {x : α} (h : l[i]? = some x) : l.drop i = x :: l.drop (i + 1) := by
  have hlt := (List.getElem?_eq_some_iff.1 h).1
  rw [List.drop_eq_getElem_cons hlt]
  congr 1
  exact (List.getElem?_eq_some_iff.1 h).2
def RowN {α : Type} (H : AH) (f : α → List PV) (sz : Nat) (l : List α) (v : PV) (ids : List Nat) : Prop :=
  (v = .isl [] .nil ∧ l = [] ∧ ids = []) ∨ ∃ id cap junk, ids = [id] ∧ v = .msl id 0 l.length cap sz ∧ l.length ≤ cap ∧ id < H.next ∧ H.obj id = some ((l.map f).flatten ++ junk) ∧ junk.length = (cap - l.length) * sz
def Nw (H : AH) (ids ids' : List Nat) : Prop := ∀ i ∈ ids', i ∈ ids ∨ H.next ≤ i
theorem Nw.refl {H : AH} {ids : List Nat} : Nw H ids ids := fun _ h => .inl h
theorem Nw.trans {H H' : AH} {a b c : List Nat} (h : Nw H a b) (hn : H.next ≤ H'.next) (k : Nw H' b c) : Nw H a c := fun i hi => by
  rcases k i hi with q | q
  · exact h i q
  · exact .inr (Nat.le_trans hn q)
theorem Nw.via {H H' : AH} {M N c : List Nat} (h : ∀ i ∈ N, i ∈ M ∨ H.next ≤ i) (hn : H.next ≤ H'.next) (k : Nw H' N c) : Nw H M c := fun i hi => by
  rcases k i hi with q | q
  · exact h i q
  · exact .inr (Nat.le_trans hn q)
def Dj (a b : List Nat) : Prop := ∀ i ∈ a, i ∉ b
theorem Dj.nil {b : List Nat} : Dj [] b := fun _ h => by cases h
theorem Dj.symm {a b : List Nat} (h : Dj a b) : Dj b a := fun i hi hj => h i hj hi
section
variable {α : Type} {H H' : AH} {f : α → List PV} {sz : Nat} {l : List α} {v : PV} {ids : List Nat}
theorem RowN.nil : RowN H f sz ([] : List α) (.isl [] .nil) [] := .inl ⟨rfl, rfl, rfl⟩
theorem RowN.lt (h : RowN H f sz l v ids) : ∀ i ∈ ids, i < H.next := by
  rcases h with ⟨_, _, rfl⟩ | ⟨id, cap, junk, rfl, _, _, h, _⟩
  · intro i hi; cases hi
  · intro i hi; rw [List.mem_singleton.1 hi]; exact h
theorem RowN.hf {M : List Nat} (h : RowN H f sz l v ids) (hf : HF M H H') (hd : Dj ids M) : RowN H' f sz l v ids := by
  rcases h with ⟨h1, h2, h3⟩ | ⟨id, cap, junk, rfl, h1, h2, h3, h4, h5⟩
  · exact .inl ⟨h1, h2, h3⟩
  · exact .inr ⟨id, cap, junk, rfl, h1, h2, Nat.lt_of_lt_of_le h3 hf.1, (hf.2 id h3 (hd id (List.mem_singleton.2 rfl))).trans h4, h5⟩
theorem RowN.new {cs : List PV} (h : RowN H f sz l v ids) : RowN (H.new cs) f sz l v ids := h.hf (M := []) (HF.new (HF.refl _ _)) (fun _ _ h => by cases h)
theorem RowN.put {id : Nat} {cs : List PV} (h : RowN H f sz l v ids) (hn : id ∉ ids) : RowN (H.put id cs) f sz l v ids :=
  h.hf (M := [id]) (HF.put (.inl (List.mem_singleton.2 rfl)) (HF.refl _ _)) (fun i hi hj => hn (List.mem_singleton.1 hj ▸ hi))
theorem RowN.lenv (h : RowN H f sz l v ids) : lenPV v = some (.int .i64 l.length) := by
  rcases h with ⟨rfl, rfl, _⟩ | ⟨id, cap, junk, rfl, rfl, _⟩
  · rfl
  · rfl
theorem RowN.at (h : RowN H f sz l v ids) {i : Nat} {x : α} (hx : l[i]? = some x) : ∃ id cap junk, ids = [id] ∧ v = .msl id 0 l.length cap sz ∧ l.length ≤ cap ∧ id < H.next ∧ H.obj id = some ((l.map f).flatten ++ junk) ∧ junk.length = (cap - l.length) * sz := by
  rcases h with ⟨_, rfl, _⟩ | h
  · simp at hx
  · exact h
theorem RowN.content [hr : RowF f sz] (h : RowN H f sz l v ids) {i : Nat} {x : α} (hx : l[i]? = some x) :
    ∃ id C, ids = [id] ∧ id < H.next ∧ H.obj id = some C ∧ (∀ j c, (f x)[j]? = some c → C[i * sz + j]? = some c) ∧ (∀ j, j ≤ sz → i * sz + j ≤ C.length) ∧ (C.drop (i * sz)).take sz = f x ∧
      ∀ k n, 0 ≤ n → n.toNat = i → idxPV sz v (.int k n) = some (.ref id (i * sz)) := by
  obtain ⟨id, cap, junk, rfl, rfl, h2, h3, h4, h5⟩ := h.at hx
  have hlt := (List.getElem?_eq_some_iff.1 hx).1
  have hd : ((l.map f).flatten ++ junk).drop (i * sz) = f x ++ (((l.drop (i + 1)).map f).flatten ++ junk) := by
    rw [List.drop_append_of_le_length (by rw [flat_length hr.len]; exact Nat.mul_le_mul_right _ (by omega)), flat_drop hr.len, drop_get hx]
    simp
  have hlen : i * sz + sz ≤ ((l.map f).flatten ++ junk).length := by
    rw [List.length_append, flat_length hr.len]
    have : (i + 1) * sz ≤ l.length * sz := Nat.mul_le_mul_right _ hlt
    rw [Nat.succ_mul] at this
    omega
  refine ⟨id, _, rfl, h3, h4, fun j c hc => ?_, fun j hj => by omega, ?_, fun k n hn he => ?_⟩
  · rw [← List.getElem?_drop, hd]
    have hj : j < (f x).length := (List.getElem?_eq_some_iff.1 hc).1
    rw [List.getElem?_append_left hj]; exact hc
  · rw [hd, List.take_append_of_le_length (by rw [hr.len]; exact Nat.le_refl _), List.take_of_length_le (by rw [hr.len]; exact Nat.le_refl _)]
  · subst he
    have h6 : n < (l.length : Int) := by omega
    simp [idxPV, hn, h6]
theorem RowN.fz (hp : ∀ x, ∀ c ∈ f x, Pu c) [hr : RowF f sz] (h : RowN H f sz l v ids) : Fz H v (.isl (l.map f) .unk) := by
  rcases h with ⟨rfl, rfl, _⟩ | ⟨id, cap, junk, rfl, rfl, h2, h3, h4, h5⟩
  · exact fz_sl hp [] .nil
  · refine .msl id 0 l.length cap sz _ _ (fun i j => ((l.map f)[i]?.bind (·[j]?)).getD .any) h4 (by simp) h2 (fun i cs e => ?_) (fun i cs e j c ec => ?_) (fun i cs e j c ec => ?_)
    · simp only [List.getElem?_map, Option.map_eq_some_iff] at e
      obtain ⟨x, _, rfl⟩ := e
      exact hr.len x
    · have e' := e
      simp only [List.getElem?_map, Option.map_eq_some_iff] at e
      obtain ⟨x, hx, rfl⟩ := e
      have hrow : RowN H f sz l (.msl id 0 l.length cap sz) [id] := .inr ⟨id, cap, junk, rfl, rfl, h2, h3, h4, h5⟩
      obtain ⟨id', C, e1, _, e2, e3, _⟩ := hrow.content hx
      cases e1
      rw [h4] at e2
      cases e2
      rw [e', Option.bind_some, ec, Option.getD_some, Nat.zero_add]
      exact e3 j c ec
    · rw [e, Option.bind_some, ec, Option.getD_some]
      simp only [List.getElem?_map, Option.map_eq_some_iff] at e
      obtain ⟨x, _, rfl⟩ := e
      exact .pure _ (hp x c (List.mem_of_getElem? ec))
end
variable [Glob]
section
variable {P : Program} {Q : Post} {σ : Nat → PV} {s : List Fm} {α : Type} {H : AH} {f : α → List PV} {sz : Nat} {v : PV} {ids : List Nat}
theorem WO_rowapp {d : Option Nat} {b : Nat} {x y : AE} {l : List AOp} [hr : RowF f sz] (hf : ∀ x, rowLike sz (f x)) (xs ys : List α) (c2 : Ck)
    (hx : x.ev σ = v) (hrow : RowN H f sz xs v ids) (hy : y.ev σ = .isl (ys.map f) c2) (hs : 0 < ys.length) (hb : (xs.length + ys.length) * b ≤ 1099511627776)
    (h : ∀ (v' : PV) (ids' : List Nat) (H' : AH), RowN H' f sz (xs ++ ys) v' ids' → Nw H ids ids' → HF ids H H' → (∀ c3, okc H c3 → okc H' c3) → WO P l s Q (upd σ d v') H') :
    WO P (⟨d, .n (.app sz b x y), none⟩ :: l) s Q σ H := by
  show WOps P _ _ σ H
  rw [WOps_n]
  simp only [nop, hx, hy]
  have h0 : ¬ ((ys.map f).length = 0) := by rw [List.length_map]; omega
  have fresh : ∀ (es : List (List PV)), es = xs.map f → freshApp sz b H es (ys.map f) (fun p H' => WOps P l (unst P s Q .normal) (upd σ d p) H') := by
    intro es he cap hcap
    subst he
    simp only [List.length_map] at hcap ⊢
    refine h _ [H.next] _ (.inr ⟨H.next, cap, List.replicate ((cap - (xs.length + ys.length)) * sz) .any, rfl, by rw [List.length_append], by rw [List.length_append]; exact hcap, Nat.lt_succ_self _, ?_, by rw [List.length_replicate, List.length_append]⟩) (fun i hi => .inr (by rw [List.mem_singleton.1 hi]; exact Nat.le_refl _)) (HF.new (HF.refl _ _)) (fun c3 k => k.new)
    show (if H.next = H.next then some _ else _) = _
    rw [if_pos rfl, List.map_append]
  rcases hrow with ⟨rfl, rfl, rfl⟩ | ⟨id, cap, junk, rfl, rfl, h2, h3, h4, h5⟩
  · simp only [nopApp, rowOf]
    rw [if_neg h0]
    split
    · exact fresh [] rfl
    · rename_i hno; exact (hno ⟨szOk_map hf ([] : List α), szOk_map hf ys, by simpa using hb⟩).elim
  · have hfl := flat_length (f := f) hr.len xs
    have hrow : rowOf sz H (.msl id 0 xs.length cap sz) = some (xs.map f) := by
      simp only [rowOf, h4]
      rw [if_pos ⟨trivial, by rw [List.length_append, hfl]; omega⟩, List.drop_zero]
      have := chunks_flat' (sz := sz) (xs.map f) junk (fun cs hcs => by obtain ⟨x, _, rfl⟩ := List.mem_map.1 hcs; exact hr.len x)
      rw [List.length_map] at this
      rw [this]
    simp only [nopApp, hrow]
    have : rowOf sz H (.isl (ys.map f) c2) = some (ys.map f) := rfl
    simp only [this]
    rw [if_neg h0, if_pos ⟨szOk_map hf xs, szOk_map hf ys, by simpa using hb⟩]
    simp only [List.length_map]
    by_cases hc : xs.length + ys.length ≤ cap
    · rw [if_pos hc, h4]
      have hsz : cap - xs.length = (cap - (xs.length + ys.length)) + ys.length := by omega
      have h6 : 0 + (xs.length + ys.length) * sz ≤ ((xs.map f).flatten ++ junk).length := by
        rw [List.length_append, hfl, h5, Nat.add_mul, hsz, Nat.add_mul]; omega
      simp only
      rw [if_pos h6]
      have hyl := flat_length (f := f) hr.len ys
      have hput : putCells ((xs.map f).flatten ++ junk) (0 + xs.length * sz) (ys.map f).flatten = ((xs ++ ys).map f).flatten ++ junk.drop (ys.length * sz) := by
        rw [Nat.zero_add, putCells, ← hfl, List.take_left, hyl, ← List.drop_drop, List.drop_left, List.map_append, List.flatten_append]
      rw [hput]
      refine h _ [id] _ (.inr ⟨id, cap, junk.drop (ys.length * sz), rfl, by rw [List.length_append], by rw [List.length_append]; exact hc, h3, ?_, ?_⟩) Nw.refl (HF.put (.inl (List.mem_singleton.2 rfl)) (HF.refl _ _)) (fun c3 k => k.put)
      · show (if id = id then some _ else _) = _
        rw [if_pos rfl]
      · rw [List.length_drop, h5, List.length_append, hsz, Nat.add_mul]
        omega
    · rw [if_neg hc, if_pos h2]
      have hfr := fresh _ rfl
      intro cap' hcap'
      exact hfr cap' hcap'
theorem WO_mkrow {d : Option Nat} {bytes : Nat} {zero : List PV} {x y : AE} {l : List AOp} [hr : RowF f sz] (z : α) (hz : f z = zero) {k k' : IntKind} {n c : Int} (hx : x.ev σ = .int k n) (hy : y.ev σ = .int k' c)
    (hb : 0 ≤ n ∧ n ≤ c ∧ c ≤ 1099511627776 ∧ bytes * c ≤ 1099511627776) (hs : 0 < sz)
    (h : ∀ (v' : PV) (ids' : List Nat) (H' : AH), RowN H' f sz (List.replicate n.toNat z) v' ids' → Nw H [] ids' → HF [] H H' → (∀ c3, okc H c3 → okc H' c3) → WO P l s Q (upd σ d v') H') :
    WO P (⟨d, .d (.mksl sz bytes zero x y), none⟩ :: l) s Q σ H := by
  show WD P (dop (.mksl sz bytes zero x y) σ H) d l s Q σ
  simp only [dop, hx, hy]
  rw [if_pos ⟨hb.1, hb.2.1, hb.2.2.1, hb.2.2.2, by rw [← hz, hr.len], hs⟩]
  show WO P l s Q (upd σ d _) _
  have hn : (List.replicate n.toNat z).length = n.toNat := List.length_replicate
  refine h _ [H.next] _ (.inr ⟨H.next, c.toNat, (List.replicate (c.toNat - n.toNat) zero).flatten, rfl, by rw [hn], by rw [hn]; omega, Nat.lt_succ_self _, ?_, ?_⟩) (fun i hi => .inr (by rw [List.mem_singleton.1 hi]; exact Nat.le_refl _)) (HF.new (HF.refl _ _)) (fun c3 k => k.new)
  · show (if H.next = H.next then some _ else _) = _
    rw [if_pos rfl, List.map_replicate, hz, ← List.flatten_append, List.replicate_append_replicate]
    congr 3
    omega
  · rw [hn, flat_len', ← hz, hr.len]
theorem WO_rowset {d : Option Nat} {n : Nat} {x w : AE} {l : List AOp} [hr : RowF f sz] {xs : List α} {id o i j : Nat} {a y : α} {vs : List PV}
    (hx : x.ev σ = .ref id o) (hid : ids = [id]) (ho : o = i * sz + j) (hrow : RowN H f sz xs v ids) (ha : xs[i]? = some a) (hv : cellsOf (w.ev σ) = some vs) (hl : vs.length = n) (hone : vs.all PV.one = true) (hj : j + n ≤ sz) (hy : putCells (f a) j vs = f y)
    (h : ∀ H' : AH, RowN H' f sz (xs.set i y) v ids → HF ids H H' → (∀ c3, okc H c3 → okc H' c3) → WO P l s Q (upd σ d .any) H') :
    WO P (⟨d, .d (.store n x w), none⟩ :: l) s Q σ H := by
  obtain ⟨id', cap, junk, e1, rfl, h2, h3, h4, h5⟩ := hrow.at ha
  subst hid
  cases e1
  have hlt := (List.getElem?_eq_some_iff.1 ha).1
  have hfl := flat_length (f := f) hr.len xs
  have hle : o + n ≤ ((xs.map f).flatten ++ junk).length := by
    rw [List.length_append, hfl, ho]
    have : (i + 1) * sz ≤ xs.length * sz := Nat.mul_le_mul_right _ hlt
    rw [Nat.succ_mul] at this
    omega
  show WD P (dop (.store n x w) σ H) d l s Q σ
  simp only [dop, hx, hv, h4]
  rw [if_pos ⟨hl, hle, hone⟩]
  show WO P l s Q (upd σ d .any) _
  have hxs : xs = xs.take i ++ a :: xs.drop (i + 1) := by rw [← drop_get ha, List.take_append_drop]
  have hA : ((xs.take i).map f).flatten.length = i * sz := by rw [flat_length hr.len, List.length_take]; congr 1; omega
  have hput : putCells ((xs.map f).flatten ++ junk) o vs = ((xs.set i y).map f).flatten ++ junk := by
    have e2 : (xs.map f).flatten ++ junk = ((xs.take i).map f).flatten ++ (f a ++ (((xs.drop (i + 1)).map f).flatten ++ junk)) := by
      conv => lhs; rw [hxs]
      simp
    have e3 : xs.set i y = xs.take i ++ y :: xs.drop (i + 1) := by rw [List.set_eq_take_append_cons_drop, if_pos hlt]
    rw [e2, e3, ho, ← hA, putCells_mid _ _ _ _ (by rw [hr.len, hl]; exact hj), hy]
    simp
  rw [hput]
  refine h _ (.inr ⟨id, cap, junk, rfl, by rw [List.length_set], by rw [List.length_set]; exact h2, h3, ?_, by rw [List.length_set]; exact h5⟩) (HF.put (.inl (List.mem_singleton.2 rfl)) (HF.refl _ _)) (fun c3 k => k.put)
  show (if id = id then some _ else _) = _
  rw [if_pos rfl]
end
end Go.VL
end
section
namespace Go.VL
open Go.RowKit
variable [Glob]
section
variable {P : Program} {B : Nat → Prop} {G : Gh} {H : AH} {w w' : World}
theorem HM.below (hM : HM B H G w) (h : Below w.heap.size w w') : HM B H G w' := by
  have hlt : ∀ b arr t fr, w.heap[b]? = some (.cells arr t fr) → b < w.heap.size := fun b arr t fr e => (Array.getElem?_eq_some_iff.1 e).1
  exact {
    glob := hM.glob
    imm := fun a x e => by
      have hc := hM.imm a x e
      exact (World.cell?_of_block (h.block _ (World.block_lt_of_cell? w a hc))).trans hc
    obj := fun id cs e => by
      obtain ⟨k0, b, arr, t, k1, k2, k3, k4, k5⟩ := hM.obj id cs e
      exact ⟨k0, b, arr, t, k1, k2, (h.block b (hlt _ _ _ _ k3)).trans k3, k4, k5⟩
    inj := hM.inj
    tok := fun k e => by
      obtain ⟨k0, b, o, arr, t, k1, k2, k3, k5⟩ := hM.tok k e
      exact ⟨k0, b, o, arr, t, k1, k2, (h.block b (hlt _ _ _ _ k3)).trans k3, k5⟩
    tinj := hM.tinj
    tobj := hM.tobj }
theorem Tr.below (h : Below w.heap.size w w') : Tr B w w' :=
  ⟨h.size, fun b hb _ => h.block b hb, h.os, h.tape, h.output, fun b o e _ => (h.block b (Array.getElem?_eq_some_iff.1 e).1).trans e⟩
theorem pcall_of {f : FuncId} {args : List PV} {r : PV} (he : Enters P f)
    (h : ∀ (w : World) (G : Gh) (vs : Array Value), (∀ a x, Glob.gc a = some x → w.cell? a = some x) → (∀ a x, G.F a = some x → w.cell? a = some x) → Vs G 0 args vs → Calls P f vs w fun e w' => ∃ v, e = .returned v ∧ Below w.heap.size w w' ∧ ∀ G n, V G n r v)
    (hp : ∀ a ∈ args, Pu a) : PCall P f args r := by
  intro H
  refine ⟨he, fun B G w vs hU hM hv => ?_⟩
  have hv' : Vs ⟨G.F, fun _ => none, fun _ => none⟩ 0 args vs := ⟨hv.1, fun j c x hc hx => V.pure (G := G) (G' := ⟨G.F, fun _ => none, fun _ => none⟩) (n' := 0) (fun (_ : Addr) (_ : Value) e => e) (hv.2 j c x hc hx) (hp c (List.mem_of_getElem? hc))⟩
  refine (h w ⟨G.F, fun _ => none, fun _ => none⟩ vs (fun a x e => hM.imm a x (hM.glob a x e)) hM.imm hv').mono ?_
  rintro e w' ⟨v, h1, h2, h3⟩
  exact ⟨r, v, H, G, h1, Tr.below h2, Ext.refl B _ G, Nat.le_refl _, hM.below h2, h3 G _, rfl, rfl⟩
theorem Vs.str2 {n : Nat} {s t : List UInt8} {vs : Array Value} (h : Vs G n [.str s, .str t] vs) : vs = #[.string ⟨s.toArray⟩, .string ⟨t.toArray⟩] := by
  obtain ⟨h1, h2⟩ := h
  match vs, h1, h2 with
  | ⟨[v, u]⟩, _, h2 =>
    have a := h2 0 (.str s) v rfl rfl
    have b := h2 1 (.str t) u rfl rfl
    cases a; cases b
    rfl
theorem Vs.int1 {n : Nat} {k : IntKind} {x : Int} {vs : Array Value} (h : Vs G n [.int k x] vs) : vs = #[.int k x] := by
  obtain ⟨h1, h2⟩ := h
  match vs, h1, h2 with
  | ⟨[v]⟩, _, h2 =>
    have := h2 0 (.int k x) v rfl rfl
    cases this
    rfl
theorem Vs.strint {n : Nat} {s : List UInt8} {k : IntKind} {x : Int} {vs : Array Value} (h : Vs G n [.str s, .int k x] vs) : vs = #[.string ⟨s.toArray⟩, .int k x] := by
  obtain ⟨h1, h2⟩ := h
  match vs, h1, h2 with
  | ⟨[v, u]⟩, _, h2 =>
    have a := h2 0 (.str s) v rfl rfl
    have b := h2 1 (.int k x) u rfl rfl
    cases a; cases b
    rfl
theorem Vs.strsstr {n : Nat} {l : List (List UInt8)} {t : List UInt8} {vs : Array Value} (hi : ∀ a x, G.F a = some x → w.cell? a = some x) (h : Vs G n [.isl (l.map strL) .unk, .str t] vs) :
    (∃ ad cap, l.length ≤ cap ∧ vs = #[.slice ad l.length cap, .string ⟨t.toArray⟩] ∧ (l ≠ [] → ∃ b o, ad = some ⟨b, o, none⟩ ∧ b < w.heap.size ∧ ∀ (j : Nat) (x : ByteArray), (l.map fun s => (⟨s.toArray⟩ : ByteArray))[j]? = some x → w.cell? ⟨b, o + j, none⟩ = some (.string x))) := by
  obtain ⟨h1, h2⟩ := h
  match vs, h1, h2 with
  | ⟨[v, u]⟩, _, h2 =>
    have a := h2 0 _ v rfl rfl
    have b := h2 1 (.str t) u rfl rfl
    cases b
    generalize hes : l.map strL = es at a
    have hl : l.length = es.length := by rw [← hes]; simp
    cases a with
    | isl _ _ sz ad cap f k1 k2 k3 k4 k5 =>
      refine ⟨ad, cap, by omega, by rw [hl], fun hne => ?_⟩
      have hne' : es ≠ [] := fun e => hne (List.eq_nil_of_length_eq_zero (by rw [hl, e]; rfl))
      obtain ⟨bk, o, rfl, k6⟩ := k3 hne'
      have get : ∀ j s, l[j]? = some s → es[j]? = some (strL s) := fun j s e => by rw [← hes, List.getElem?_map, e]; rfl
      have hsz : sz = 1 := by
        obtain ⟨s, l', rfl⟩ := List.exists_cons_of_ne_nil hne
        have := k1 0 _ (get 0 s rfl)
        exact this.symm
      subst hsz
      have cell : ∀ j s, l[j]? = some s → w.cell? ⟨bk, o + j, none⟩ = some (.string ⟨s.toArray⟩) := fun j s e => by
        have e1 := get j s e
        have e2 := k6 j _ e1 0 (.str s) rfl
        have e3 := k4 j _ 0 (.str s) e1 rfl
        generalize f j 0 = v at e2 e3
        cases e3
        have := hi _ _ e2
        simpa using this
      refine ⟨bk, o, rfl, ?_, fun j x e => ?_⟩
      · obtain ⟨s, l', rfl⟩ := List.exists_cons_of_ne_nil hne
        exact World.block_lt_of_cell? w _ (cell 0 s rfl)
      · simp only [List.getElem?_map, Option.map_eq_some_iff] at e
        obtain ⟨s, e1, rfl⟩ := e
        exact cell j s e1
end
end Go.VL
end
section
namespace Go.Proofs
open Go.Shelf
def Tryz.lays156_ren : Go.Shelf.Ren := ⟨fun | 156 => 151 | 165 => 191 | 166 => 192 | 169 => 193 | 240 => 208 | 241 => 209 | 276 => 215 | 277 => 216 | n => n, fun | 31 => 37 | 9 => 9 | 3 => 3 | 4 => 4 | 0 => 0 | 20 => 20 | 72 => 204 | 76 => 208 | 70 => 202 | 37 => 141 | 75 => 207 | 127 => 220 | 164 => 231 | 5 => 5 | 80 => 149 | n => n, fun | n => n⟩
theorem Tryz.lays156 : Go.Proofs.Lays.n156 Tryz.prog Tryz.lays156_ren := {
  mixed := by kernel_rfl
  f156 := Tryz.func151.trans (congrArg some (by kernel_rfl))
  f165 := Tryz.func191.trans (congrArg some (by kernel_rfl))
  f166 := Tryz.func192.trans (congrArg some (by kernel_rfl))
  f169 := Tryz.func193.trans (congrArg some (by kernel_rfl))
  f240 := Tryz.func208.trans (congrArg some (by kernel_rfl))
  f241 := Tryz.func209.trans (congrArg some (by kernel_rfl))
  f276 := Tryz.func215.trans (congrArg some (by kernel_rfl))
  f277 := Tryz.func216.trans (congrArg some (by kernel_rfl))
  t0 := Tryz.underlying0
  a0 := Tryz.isAgg0
  z0 := Tryz.sizeOf0
  v0 := Tryz.zeroValue0
  t3 := Tryz.underlying3
  a3 := Tryz.isAgg3
  z3 := Tryz.sizeOf3
  v3 := Tryz.zeroValue3
  t4 := Tryz.underlying4
  a4 := Tryz.isAgg4
  z4 := Tryz.sizeOf4
  v4 := Tryz.zeroValue4
  t9 := Tryz.underlying9
  a9 := Tryz.isAgg9
  z9 := Tryz.sizeOf9
  v9 := Tryz.zeroValue9
  t20 := Tryz.underlying20
  a20 := Tryz.isAgg20
  z20 := Tryz.sizeOf20
  v20 := Tryz.zeroValue20
  t31 := Tryz.underlying37
  a31 := Tryz.isAgg37
  z31 := Tryz.sizeOf37
  v31 := Tryz.zeroValue37
  t37 := Tryz.underlying141
  a37 := Tryz.isAgg141
  z37 := Tryz.sizeOf141
  v37 := Tryz.zeroValue141
  t70 := Tryz.underlying202
  a70 := Tryz.isAgg202
  z70 := Tryz.sizeOf202
  v70 := Tryz.zeroValue202
  t72 := Tryz.underlying204
  a72 := Tryz.isAgg204
  z72 := Tryz.sizeOf204
  v72 := Tryz.zeroValue204
  t75 := Tryz.underlying207
  a75 := Tryz.isAgg207
  z75 := Tryz.sizeOf207
  v75 := Tryz.zeroValue207
  t76 := Tryz.underlying208
  a76 := Tryz.isAgg208
  z76 := Tryz.sizeOf208
  v76 := Tryz.zeroValue208
  t127 := Tryz.underlying220
  a127 := Tryz.isAgg220
  z127 := Tryz.sizeOf220
  v127 := Tryz.zeroValue220
  t164 := Tryz.underlying231
  a164 := Tryz.isAgg231
  z164 := Tryz.sizeOf231
  v164 := Tryz.zeroValue231 }
theorem Tryz.Builder_Extra_156 : Builder.Extra Tryz.prog Tryz.lays156_ren := {
  sizeBuilder := by kernel_rfl
  liesBuilder := by kernel_rfl
  t5 := Tryz.underlying5
  a5 := Tryz.isAgg5
  z5 := Tryz.sizeOf5
  v5 := Tryz.zeroValue5
  infoByte := by kernel_rfl
  cellsByte := by kernel_rfl
  sizeByte := by kernel_rfl
  neB5 := by decide }
open Go.RowKit in
theorem Tryz.strings_Join_none (a : Option Addr) (c : Nat) (sep : ByteArray) (w : World) :
    Calls Tryz.prog 151 #[.slice a 0 c, .string sep] w fun e w' => e = .returned (.string ⟨#[]⟩) ∧ w' = w := Any.strings_Join_none Tryz.lays156 Tryz.Builder_Extra_156 a c sep w
open Go.RowKit in
theorem Tryz.strings_Join (bk o c : Nat) (xs : List ByteArray) (sep : ByteArray) (w : World) (hcells : ∀ (j : Nat) x, xs[j]? = some x → w.cell? ⟨bk, o + j, none⟩ = some (.string x)) (hbk : bk < w.heap.size) (hN : xs.length ≤ 140737488355328) (hcap : xs.length ≤ c) (hlen : (Lib.join (xs.map (·.data.toList)) sep.data.toList).length ≤ 140737488355328) :
    Calls Tryz.prog 151 #[.slice (some ⟨bk, o, none⟩) xs.length c, .string sep] w fun e w' => e = .returned (.string ⟨(Lib.join (xs.map (·.data.toList)) sep.data.toList).toArray⟩) ∧ Below w.heap.size w w' := Any.strings_Join Tryz.lays156 Tryz.Builder_Extra_156 bk o c xs sep w hcells hbk hN hcap hlen
def Tryz.laysM246_ren : Go.Shelf.Ren := ⟨fun | 246 => 210 | 283 => 217 | 284 => 218 | 285 => 219 | 286 => 220 | 129 => 178 | 317 => 227 | 318 => 228 | 319 => 229 | 320 => 230 | 337 => 233 | 338 => 234 | n => n, fun | 2 => 2 | 3 => 3 | 9 => 9 | 4 => 4 | 171 => 234 | 0 => 0 | 53 => 183 | 37 => 141 | 5 => 5 | 173 => 236 | 212 => 250 | 51 => 181 | 20 => 20 | 213 => 251 | 46 => 138 | 232 => 255 | 233 => 256 | n => n, fun | 17 => 3 | 18 => 4 | 19 => 5 | n => n⟩
def Tryz.laysM243_ren : Go.Shelf.Ren := ⟨fun | 243 => 194 | 246 => 210 | 283 => 217 | 284 => 218 | 285 => 219 | 286 => 220 | 129 => 178 | 317 => 227 | 318 => 228 | 319 => 229 | 320 => 230 | 337 => 233 | 338 => 234 | n => n, fun | 3 => 3 | 9 => 9 | 2 => 2 | 4 => 4 | 171 => 234 | 0 => 0 | 53 => 183 | 37 => 141 | 5 => 5 | 173 => 236 | 212 => 250 | 51 => 181 | 20 => 20 | 213 => 251 | 46 => 138 | 232 => 255 | 233 => 256 | n => n, fun | 17 => 3 | 18 => 4 | 19 => 5 | n => n⟩
def Tryz.laysM171_ren : Go.Shelf.Ren := ⟨fun | 171 => 152 | 243 => 194 | 246 => 210 | 283 => 217 | 284 => 218 | 285 => 219 | 286 => 220 | 129 => 178 | 317 => 227 | 318 => 228 | 319 => 229 | 320 => 230 | 337 => 233 | 338 => 234 | n => n, fun | 3 => 3 | 9 => 9 | 2 => 2 | 4 => 4 | 171 => 234 | 0 => 0 | 53 => 183 | 37 => 141 | 5 => 5 | 173 => 236 | 212 => 250 | 51 => 181 | 20 => 20 | 213 => 251 | 46 => 138 | 232 => 255 | 233 => 256 | n => n, fun | 17 => 3 | 18 => 4 | 19 => 5 | n => n⟩
def Tryz.lays171_ren : Go.Shelf.Ren := ⟨fun | 171 => 152 | 243 => 194 | 246 => 210 | 283 => 217 | 284 => 218 | 285 => 219 | 286 => 220 | 129 => 178 | 317 => 227 | 318 => 228 | 319 => 229 | 320 => 230 | 337 => 233 | 338 => 234 | n => n, fun | 3 => 3 | 9 => 9 | 2 => 2 | 4 => 4 | 171 => 234 | 0 => 0 | 53 => 183 | 37 => 141 | 5 => 5 | 173 => 236 | 212 => 250 | 51 => 181 | 20 => 20 | 213 => 251 | 46 => 138 | 232 => 255 | 233 => 256 | n => n, fun | 17 => 3 | 18 => 4 | 19 => 5 | n => n⟩
theorem Tryz.lays171 : Go.Proofs.Lays.n171 Tryz.prog Tryz.lays171_ren := {
  mixed := by kernel_rfl
  f129 := Tryz.func178.trans (congrArg some (by kernel_rfl))
  f171 := Tryz.func152.trans (congrArg some (by kernel_rfl))
  f243 := Tryz.func194.trans (congrArg some (by kernel_rfl))
  f246 := Tryz.func210.trans (congrArg some (by kernel_rfl))
  f283 := Tryz.func217.trans (congrArg some (by kernel_rfl))
  f284 := Tryz.func218.trans (congrArg some (by kernel_rfl))
  f285 := Tryz.func219.trans (congrArg some (by kernel_rfl))
  f286 := Tryz.func220.trans (congrArg some (by kernel_rfl))
  f317 := Tryz.func227.trans (congrArg some (by kernel_rfl))
  f318 := Tryz.func228.trans (congrArg some (by kernel_rfl))
  f319 := Tryz.func229.trans (congrArg some (by kernel_rfl))
  f320 := Tryz.func230.trans (congrArg some (by kernel_rfl))
  f337 := Tryz.func233.trans (congrArg some (by kernel_rfl))
  f338 := Tryz.func234.trans (congrArg some (by kernel_rfl))
  t0 := Tryz.underlying0
  a0 := Tryz.isAgg0
  z0 := Tryz.sizeOf0
  v0 := Tryz.zeroValue0
  t2 := Tryz.underlying2
  a2 := Tryz.isAgg2
  z2 := Tryz.sizeOf2
  v2 := Tryz.zeroValue2
  t3 := Tryz.underlying3
  a3 := Tryz.isAgg3
  z3 := Tryz.sizeOf3
  v3 := Tryz.zeroValue3
  t4 := Tryz.underlying4
  a4 := Tryz.isAgg4
  z4 := Tryz.sizeOf4
  v4 := Tryz.zeroValue4
  t5 := Tryz.underlying5
  a5 := Tryz.isAgg5
  z5 := Tryz.sizeOf5
  v5 := Tryz.zeroValue5
  t9 := Tryz.underlying9
  a9 := Tryz.isAgg9
  z9 := Tryz.sizeOf9
  v9 := Tryz.zeroValue9
  t20 := Tryz.underlying20
  a20 := Tryz.isAgg20
  z20 := Tryz.sizeOf20
  v20 := Tryz.zeroValue20
  t37 := Tryz.underlying141
  a37 := Tryz.isAgg141
  z37 := Tryz.sizeOf141
  v37 := Tryz.zeroValue141
  t46 := Tryz.underlying138
  a46 := Tryz.isAgg138
  z46 := Tryz.sizeOf138
  v46 := Tryz.zeroValue138
  t51 := Tryz.underlying181
  a51 := Tryz.isAgg181
  z51 := Tryz.sizeOf181
  v51 := Tryz.zeroValue181
  t53 := Tryz.underlying183
  a53 := Tryz.isAgg183
  z53 := Tryz.sizeOf183
  v53 := Tryz.zeroValue183
  t171 := Tryz.underlying234
  a171 := Tryz.isAgg234
  z171 := Tryz.sizeOf234
  v171 := Tryz.zeroValue234
  t173 := Tryz.underlying236
  a173 := Tryz.isAgg236
  z173 := Tryz.sizeOf236
  v173 := Tryz.zeroValue236
  t212 := Tryz.underlying250
  a212 := Tryz.isAgg250
  z212 := Tryz.sizeOf250
  v212 := Tryz.zeroValue250
  t213 := Tryz.underlying251
  a213 := Tryz.isAgg251
  z213 := Tryz.sizeOf251
  t232 := Tryz.underlying255
  a232 := Tryz.isAgg255
  z232 := Tryz.sizeOf255
  v232 := Tryz.zeroValue255
  t233 := Tryz.underlying256
  a233 := Tryz.isAgg256
  z233 := Tryz.sizeOf256
  v233 := Tryz.zeroValue256
  g17 := by kernel_rfl
  g18 := by kernel_rfl
  g19 := by kernel_rfl }
open Go.RowKit Go.Sort Go.Lib in
theorem Tryz.strconv_Itoa_small (i : Nat) (hi : i < 100) (w : World) :
    Calls Tryz.prog 152 #[.int .i64 i] w fun e w' => e = .returned (.string ⟨(Lib.decDigits i).toArray⟩) ∧ w' = w := Any.strconv_Itoa_small Tryz.lays171 i hi w
def Tryz.lays219_ren : Go.Shelf.Ren := ⟨fun | 219 => 214 | 217 => 223 | 225 => 224 | 224 => 225 | 267 => 226 | 266 => 231 | 314 => 232 | n => n, fun | 9 => 9 | 3 => 3 | 4 => 4 | 5 => 5 | 46 => 138 | 146 => 197 | 51 => 181 | n => n, fun | 1 => 2 | n => n⟩
theorem Tryz.lays219 : Go.Proofs.Lays.n219 Tryz.prog Tryz.lays219_ren := {
  mixed := by kernel_rfl
  f217 := Tryz.func223.trans (congrArg some (by kernel_rfl))
  f219 := Tryz.func214.trans (congrArg some (by kernel_rfl))
  f224 := Tryz.func225.trans (congrArg some (by kernel_rfl))
  f225 := Tryz.func224.trans (congrArg some (by kernel_rfl))
  f266 := Tryz.func231.trans (congrArg some (by kernel_rfl))
  f267 := Tryz.func226.trans (congrArg some (by kernel_rfl))
  f314 := Tryz.func232.trans (congrArg some (by kernel_rfl))
  t3 := Tryz.underlying3
  a3 := Tryz.isAgg3
  z3 := Tryz.sizeOf3
  v3 := Tryz.zeroValue3
  t4 := Tryz.underlying4
  a4 := Tryz.isAgg4
  z4 := Tryz.sizeOf4
  v4 := Tryz.zeroValue4
  t5 := Tryz.underlying5
  a5 := Tryz.isAgg5
  z5 := Tryz.sizeOf5
  v5 := Tryz.zeroValue5
  t9 := Tryz.underlying9
  a9 := Tryz.isAgg9
  z9 := Tryz.sizeOf9
  v9 := Tryz.zeroValue9
  t46 := Tryz.underlying138
  a46 := Tryz.isAgg138
  z46 := Tryz.sizeOf138
  v46 := Tryz.zeroValue138
  t51 := Tryz.underlying181
  a51 := Tryz.isAgg181
  z51 := Tryz.sizeOf181
  v51 := Tryz.zeroValue181
  t146 := Tryz.underlying197
  a146 := Tryz.isAgg197
  z146 := Tryz.sizeOf197
  v146 := Tryz.zeroValue197
  g1 := by kernel_rfl }
open Go.RowKit Go.Lib in
theorem Tryz.stringslite_Index_one (s : ByteArray) (c : UInt8) (w : World) :
    Calls Tryz.prog 214 #[.string s, .string ⟨#[c]⟩] w fun e w' => e = .returned (.int .i64 (Lib.indexByte s.data.toList c)) ∧ w' = w := Any.stringslite_Index_one Tryz.lays219 s c w
def Tryz.lays190_ren : Go.Shelf.Ren := ⟨fun | 190 => 66 | 125 => 117 | 258 => 116 | 128 => 177 | 129 => 178 | 302 => 168 | 303 => 169 | 304 => 170 | 305 => 171 | 306 => 172 | 307 => 173 | 308 => 174 | 309 => 175 | 310 => 176 | 333 => 197 | 329 => 198 | 330 => 199 | 334 => 200 | 335 => 201 | 336 => 202 | 344 => 212 | n => n, fun | 31 => 37 | 9 => 9 | 3 => 3 | 46 => 138 | 0 => 0 | 51 => 181 | 53 => 183 | 4 => 4 | 183 => 174 | 182 => 173 | 131 => 178 | 5 => 5 | 218 => 210 | 222 => 214 | 228 => 223 | 229 => 30 | n => n, fun | n => n⟩
theorem Tryz.lays190 : Go.Proofs.Lays.n190 Tryz.prog Tryz.lays190_ren := {
  mixed := by kernel_rfl
  f125 := Tryz.func117.trans (congrArg some (by kernel_rfl))
  f128 := Tryz.func177.trans (congrArg some (by kernel_rfl))
  f129 := Tryz.func178.trans (congrArg some (by kernel_rfl))
  f190 := Tryz.func66.trans (congrArg some (by kernel_rfl))
  f258 := Tryz.func116.trans (congrArg some (by kernel_rfl))
  f302 := Tryz.func168.trans (congrArg some (by kernel_rfl))
  f303 := Tryz.func169.trans (congrArg some (by kernel_rfl))
  f304 := Tryz.func170.trans (congrArg some (by kernel_rfl))
  f305 := Tryz.func171.trans (congrArg some (by kernel_rfl))
  f306 := Tryz.func172.trans (congrArg some (by kernel_rfl))
  f307 := Tryz.func173.trans (congrArg some (by kernel_rfl))
  f308 := Tryz.func174.trans (congrArg some (by kernel_rfl))
  f309 := Tryz.func175.trans (congrArg some (by kernel_rfl))
  f310 := Tryz.func176.trans (congrArg some (by kernel_rfl))
  f329 := Tryz.func198.trans (congrArg some (by kernel_rfl))
  f330 := Tryz.func199.trans (congrArg some (by kernel_rfl))
  f333 := Tryz.func197.trans (congrArg some (by kernel_rfl))
  f334 := Tryz.func200.trans (congrArg some (by kernel_rfl))
  f335 := Tryz.func201.trans (congrArg some (by kernel_rfl))
  f336 := Tryz.func202.trans (congrArg some (by kernel_rfl))
  f344 := Tryz.func212.trans (congrArg some (by kernel_rfl))
  t0 := Tryz.underlying0
  a0 := Tryz.isAgg0
  z0 := Tryz.sizeOf0
  v0 := Tryz.zeroValue0
  t3 := Tryz.underlying3
  a3 := Tryz.isAgg3
  z3 := Tryz.sizeOf3
  v3 := Tryz.zeroValue3
  t4 := Tryz.underlying4
  a4 := Tryz.isAgg4
  z4 := Tryz.sizeOf4
  v4 := Tryz.zeroValue4
  t5 := Tryz.underlying5
  a5 := Tryz.isAgg5
  z5 := Tryz.sizeOf5
  v5 := Tryz.zeroValue5
  t9 := Tryz.underlying9
  a9 := Tryz.isAgg9
  z9 := Tryz.sizeOf9
  v9 := Tryz.zeroValue9
  t31 := Tryz.underlying37
  a31 := Tryz.isAgg37
  z31 := Tryz.sizeOf37
  v31 := Tryz.zeroValue37
  t46 := Tryz.underlying138
  a46 := Tryz.isAgg138
  z46 := Tryz.sizeOf138
  v46 := Tryz.zeroValue138
  t51 := Tryz.underlying181
  a51 := Tryz.isAgg181
  z51 := Tryz.sizeOf181
  v51 := Tryz.zeroValue181
  t53 := Tryz.underlying183
  a53 := Tryz.isAgg183
  z53 := Tryz.sizeOf183
  v53 := Tryz.zeroValue183
  t131 := Tryz.underlying178
  a131 := Tryz.isAgg178
  z131 := Tryz.sizeOf178
  v131 := Tryz.zeroValue178
  t182 := Tryz.underlying173
  a182 := Tryz.isAgg173
  z182 := Tryz.sizeOf173
  v182 := Tryz.zeroValue173
  t183 := Tryz.underlying174
  a183 := Tryz.isAgg174
  z183 := Tryz.sizeOf174
  v183 := Tryz.zeroValue174
  t218 := Tryz.underlying210
  a218 := Tryz.isAgg210
  z218 := Tryz.sizeOf210
  v218 := Tryz.zeroValue210
  t222 := Tryz.underlying214
  a222 := Tryz.isAgg214
  z222 := Tryz.sizeOf214
  v222 := Tryz.zeroValue214
  t228 := Tryz.underlying223
  a228 := Tryz.isAgg223
  z228 := Tryz.sizeOf223
  v228 := Tryz.zeroValue223
  t229 := Tryz.underlying30
  a229 := Tryz.isAgg30
  z229 := Tryz.sizeOf30
  v229 := Tryz.zeroValue30 }
open Go.Sort Go.RowKit in
theorem Tryz.slices_Sort_string (blk off cap : Nat) (ss : List (List UInt8)) (w : World) (hH : Holds encStr w blk off ss.toArray) (hblk : blk < w.heap.size) (hsz : ss.length < 4611686018427387904) :
    Calls Tryz.prog 66 #[.slice (some ⟨blk, off, none⟩) ss.length cap] w fun e w' =>
      e = .returned (.tuple #[]) ∧ ∃ n os, w' = grow (putRow encStr (Sort.ahead w n) blk off (ss.mergeSort fun x y => decide (x ≤ y)).toArray) os := Any.slices_Sort_string Tryz.lays190 blk off cap ss w hH hblk hsz
def Tryz.laysGw17_ren : Go.Shelf.Ren := ⟨fun | 17 => 143 | 15 => 185 | 20 => 206 | n => n, fun | 9 => 9 | 23 => 152 | 4 => 4 | 3 => 3 | 0 => 0 | 21 => 21 | n => n, fun | n => n⟩
theorem Tryz.laysGw17 : Go.Proofs.LaysGw.n17 Tryz.prog Tryz.laysGw17_ren := {
  mixed := by kernel_rfl
  f15 := Tryz.func185.trans (congrArg some (by kernel_rfl))
  f17 := Tryz.func143.trans (congrArg some (by kernel_rfl))
  f20 := Tryz.func206.trans (congrArg some (by kernel_rfl))
  t0 := Tryz.underlying0
  a0 := Tryz.isAgg0
  z0 := Tryz.sizeOf0
  v0 := Tryz.zeroValue0
  i0 := by kernel_rfl
  t3 := Tryz.underlying3
  a3 := Tryz.isAgg3
  z3 := Tryz.sizeOf3
  v3 := Tryz.zeroValue3
  i3 := by kernel_rfl
  t4 := Tryz.underlying4
  a4 := Tryz.isAgg4
  z4 := Tryz.sizeOf4
  v4 := Tryz.zeroValue4
  i4 := by kernel_rfl
  t9 := Tryz.underlying9
  a9 := Tryz.isAgg9
  z9 := Tryz.sizeOf9
  v9 := Tryz.zeroValue9
  i9 := by kernel_rfl
  t21 := Tryz.underlying21
  a21 := Tryz.isAgg21
  z21 := Tryz.sizeOf21
  v21 := Tryz.zeroValue21
  i21 := by kernel_rfl
  t23 := Tryz.underlying152
  a23 := Tryz.isAgg152
  z23 := Tryz.sizeOf152
  v23 := Tryz.zeroValue152
  i23 := by kernel_rfl }
def Tryz.lays264_ren : Go.Shelf.Ren := ⟨fun | 264 => 189 | n => n, fun | 53 => 183 | 46 => 138 | n => n, fun | n => n⟩
theorem Tryz.lays264 : Go.Proofs.Lays.n264 Tryz.prog Tryz.lays264_ren := {
  mixed := by kernel_rfl
  f264 := Tryz.func189.trans (congrArg some (by kernel_rfl))
  t46 := Tryz.underlying138
  a46 := Tryz.isAgg138
  z46 := Tryz.sizeOf138
  v46 := Tryz.zeroValue138
  t53 := Tryz.underlying183
  a53 := Tryz.isAgg183
  z53 := Tryz.sizeOf183
  v53 := Tryz.zeroValue183 }
open Go.RowKit Go.Lib in
theorem Tryz.bits_Mul64 (x y : Nat) (hx : x < 18446744073709551616) (hy : y < 18446744073709551616) (w : World) :
    Calls Tryz.prog 189 #[.int .u64 x, .int .u64 y] w fun e w' => e = .returned (.tuple #[.int .u64 ((x * y / 18446744073709551616 : Nat) : Int), .int .u64 ((x * y % 18446744073709551616 : Nat) : Int)]) ∧ w' = w := Any.bits_Mul64 Tryz.lays264 x y hx hy w
open Go.RowKit Go.Lib in
theorem Tryz.strings_ContainsFunc_grows (g : Nat) (lb : Array Value) (eg : ∀ args w, (callFunc g args).run Tryz.prog w = .ok (.enter g args) w) (p : Nat → Bool) (s : ByteArray) (w : World) (hp : PredGrows Tryz.prog g lb p w) :
    Calls Tryz.prog 143 #[.string s, .func (.func g) #[] lb] w fun e w' => e = .returned (.bool (decide (0 ≤ Lib.idxFunc p true s))) ∧ Below w.heap.size w w' := Any.strings_ContainsFunc_grows Tryz.laysGw17 g lb eg p s w hp
def Tryz.lays194_ren : Go.Shelf.Ren := ⟨fun | 194 => 119 | n => n, fun | 31 => 37 | 9 => 9 | 3 => 3 | 4 => 4 | 0 => 0 | n => n, fun | n => n⟩
theorem Tryz.lays194 : Go.Proofs.Lays.n194 Tryz.prog Tryz.lays194_ren := {
  mixed := by kernel_rfl
  f194 := Tryz.func119.trans (congrArg some (by kernel_rfl))
  t0 := Tryz.underlying0
  a0 := Tryz.isAgg0
  z0 := Tryz.sizeOf0
  v0 := Tryz.zeroValue0
  t3 := Tryz.underlying3
  a3 := Tryz.isAgg3
  z3 := Tryz.sizeOf3
  v3 := Tryz.zeroValue3
  t4 := Tryz.underlying4
  a4 := Tryz.isAgg4
  z4 := Tryz.sizeOf4
  v4 := Tryz.zeroValue4
  t9 := Tryz.underlying9
  a9 := Tryz.isAgg9
  z9 := Tryz.sizeOf9
  v9 := Tryz.zeroValue9
  t31 := Tryz.underlying37
  a31 := Tryz.isAgg37
  z31 := Tryz.sizeOf37
  v31 := Tryz.zeroValue37 }
open Go.RowKit Go.Lib Go.Sort in
theorem Tryz.slices_Compact_string (blk off cap : Nat) (zs : List (List UInt8)) (w : World) (hH : Holds encStr w blk off zs.toArray) (hsz : zs.length ≤ 9223372036854775807) (hcap : zs.length ≤ cap) :
    Calls Tryz.prog 119 #[.slice (some ⟨blk, off, none⟩) zs.length cap] w fun e w' => e = .returned (.slice (some ⟨blk, off, none⟩) (Lib.compact zs).length cap) ∧ ∃ q, w' = putRow encStr (Sort.ahead w q) blk off (Lib.compact zs ++ List.replicate (zs.length - (Lib.compact zs).length) []).toArray := Any.slices_Compact_string Tryz.lays194 blk off cap zs w hH hsz hcap
open Go.RowKit Go.Lib Go.Sort in
theorem Tryz.slices_Compact_string_empty (a : Option Addr) (cap : Nat) (w : World) :
    Calls Tryz.prog 119 #[.slice a 0 cap] w fun e w' => e = .returned (.slice a 0 cap) ∧ w' = w := Any.slices_Compact_string_empty Tryz.lays194 a cap w
open Go.RowKit Go.Sort in
theorem Tryz.slices_Sort_string_none (p : Option Addr) (cap : Nat) (w : World) :
    Calls Tryz.prog 66 #[.slice p 0 cap] w fun e w' => e = .returned (.tuple #[]) ∧ w' = w := Any.slices_Sort_string_none Tryz.lays190 p cap w
def Tryz.growOp_ren : Go.Shelf.Ren := ⟨fun | 4 => 167 | n => n, fun | 22 => 93 | 25 => 46 | 3 => 3 | 4 => 4 | 9 => 9 | 20 => 20 | 0 => 0 | n => n, fun | n => n⟩
theorem Tryz.growOp : Go.Proofs.Lays8.n4 Tryz.prog Tryz.growOp_ren := {
  mixed := by kernel_rfl
  f4 := ⟨Tryz.f167.name, by decide, Tryz.func167.trans (congrArg some (by kernel_rfl))⟩
  t0 := Tryz.underlying0
  a0 := Tryz.isAgg0
  z0 := Tryz.sizeOf0
  v0 := Tryz.zeroValue0
  t3 := Tryz.underlying3
  a3 := Tryz.isAgg3
  z3 := Tryz.sizeOf3
  v3 := Tryz.zeroValue3
  t4 := Tryz.underlying4
  a4 := Tryz.isAgg4
  z4 := Tryz.sizeOf4
  v4 := Tryz.zeroValue4
  t9 := Tryz.underlying9
  a9 := Tryz.isAgg9
  z9 := Tryz.sizeOf9
  v9 := Tryz.zeroValue9
  t20 := Tryz.underlying20
  a20 := Tryz.isAgg20
  z20 := Tryz.sizeOf20
  v20 := Tryz.zeroValue20
  t22 := Tryz.underlying93
  a22 := Tryz.isAgg93
  z22 := Tryz.sizeOf93
  v22 := Tryz.zeroValue93 }
end Go.Proofs
end
section
namespace Go.VL
open Go.Proofs Go.RowKit
theorem join_c (l : List Str) (sep : Str) {c : Ck} (h1 : l.length ≤ 1099511627776) (h2 : (Lib.join l sep).length ≤ 140737488355328) : PCall Tryz.prog 151 [.isl (l.map strL) c, .str sep] (.str (Lib.join l sep)) := by
  refine PCall.wk (args := [.isl (l.map strL) .unk, .str sep]) ?_ (.isl (.same .nil))
  refine pcall_of ⟨_, Tryz.func151, rfl, by kernel_rfl⟩ (fun w G vs hg hi hv => ?_) (PuL.mem (.cons (pu_sl pu_strL _) (.cons (.str _) .nil)))
  obtain ⟨ad, cap, hc, rfl, hcells⟩ := Vs.strsstr hi hv
  by_cases h0 : l = []
  · subst h0
    refine (Tryz.strings_Join_none ad cap ⟨sep.toArray⟩ w).mono ?_
    rintro e w' ⟨rfl, rfl⟩
    exact ⟨_, rfl, Below.refl _ _, fun G n => .str _⟩
  · obtain ⟨b, o, rfl, hb, hx⟩ := hcells h0
    have e1 : (l.map fun s => (⟨s.toArray⟩ : ByteArray)).map (·.data.toList) = l := by simp [Function.comp_def]
    have key := Tryz.strings_Join b o cap (l.map fun s => ⟨s.toArray⟩) ⟨sep.toArray⟩ w hx hb (by simp; omega) (by simp; exact hc) (by rw [e1]; exact h2)
    rw [e1, List.length_map] at key
    refine key.mono ?_
    rintro e w' ⟨rfl, hb'⟩
    exact ⟨_, rfl, hb', fun G n => .str _⟩
theorem itoa_small_c (n : Int) (h : 0 ≤ n ∧ n < 100) : PCall Tryz.prog 152 [.int .i64 n] (.str (Lib.decDigits n.toNat)) := by
  refine pcall_of ⟨_, Tryz.func152, rfl, by kernel_rfl⟩ (fun w G vs hg hi hv => ?_) (PuL.mem (.cons (.int _ _) .nil))
  rw [Vs.int1 hv]
  have e1 : n = ((n.toNat : Nat) : Int) := by omega
  have key := Tryz.strconv_Itoa_small n.toNat (by omega) w
  rw [← e1] at key
  refine key.mono ?_
  rintro e w' ⟨rfl, rfl⟩
  exact ⟨_, rfl, Below.refl _ _, fun G n => .str _⟩
theorem index_one_c (s : Str) (c : UInt8) : PCall Tryz.prog 214 [.str s, .str [c]] (.int .i64 (Lib.indexByte s c)) := by
  refine pcall_of ⟨_, Tryz.func214, rfl, by kernel_rfl⟩ (fun w G vs hg hi hv => ?_) (PuL.mem (.cons (.str _) (.cons (.str _) .nil)))
  rw [Vs.str2 hv]
  refine (Tryz.stringslite_Index_one ⟨s.toArray⟩ c w).mono ?_
  rintro e w' ⟨rfl, rfl⟩
  exact ⟨_, rfl, Below.refl _ _, fun G n => .int _ _⟩
end Go.VL
end
section
namespace Go.VL
open Go.Proofs Go.RowKit
def idx1 (s sep : Str) : Option Int := match sep with
  | [c] => some (Lib.indexByte s c)
  | _ => none
theorem idx1_c (s sep : Str) {r : Int} (h : idx1 s sep = some r) : PCall Tryz.prog 214 [.str s, .str sep] (.int .i64 r) := by
  match sep, h with
  | [c], h => cases h; exact index_one_c s c
def noFields (s : Str) : Option (List Str) := none
theorem noFields_c (s : Str) {r : List Str} (h : noFields s = some r) : PCall Tryz.prog 203 [.str s, .fn (.func 204) [] []] (.isl (r.map strL) .unk) := by cases h
end Go.VL
end
section
set_option maxRecDepth 8000
set_option maxHeartbeats 4000000
namespace Go.VL
open Go.Proofs
def g_Fields_b0 : Nat → Str → Int → Int → Int → Int → Option ((Int × Int))
  | 0, _, _, _, _, _ => none
  | k + 1, s_0, n_3, wasSpace_4, setBits_5, i_6 =>
    cond (decide (i_6 < (s_0.length : Int))) (if 0 ≤ i_6 then Option.bind (s_0[i_6.toNat]?) fun x3 => if 0 ≤ (x3.toNat : Int) ∧ (x3.toNat : Int) < 256 then Option.bind (tab0[x3.toNat]?) fun x6 => g_Fields_b0 k s_0 (IntKind.wrap .i64 (n_3 + (IntKind.wrap .i64 ((BitVec.ofInt (IntKind.bits .i64) wasSpace_4 &&& BitVec.ofInt (IntKind.bits .i64) (IntKind.wrap .i64 ((BitVec.ofInt (IntKind.bits .i64) (if IntKind.signed .i64 = true then -1 else IntKind.max .i64) ^^^ BitVec.ofInt (IntKind.bits .i64) (IntKind.wrap .i64 x6)).toNat))).toNat)))) (IntKind.wrap .i64 x6) (IntKind.wrap .u8 ((BitVec.ofInt (IntKind.bits .u8) setBits_5 ||| BitVec.ofInt (IntKind.bits .u8) (x3.toNat : Int)).toNat)) (IntKind.wrap .i64 (i_6 + 1)) else none else none) (some ((n_3, setBits_5)))
def g_Fields_b0l : List Nat := [3, 4, 5, 6, 7, 8] ++ List.range' 13 23
theorem g_Fields_b0_W : ∀ (k : Nat) (s_0 : Str) (n_3 : Int) (wasSpace_4 : Int) (setBits_5 : Int) (i_6 : Int) (σ0 σ : Nat → PV) (H : AH) (f0 : Fr g_Fields_b0l σ0 σ) (sl : σ 0 = (.str s_0) ∧ σ 3 = (.int .i64 n_3) ∧ σ 4 = (.int .i64 wasSpace_4) ∧ σ 5 = (.int .u8 setBits_5) ∧ σ 6 = (.int .i64 i_6)) (o : (Int × Int)) (h : g_Fields_b0 k s_0 n_3 wasSpace_4 setBits_5 i_6 = some o) (Q : Post) (q0 : ∀ (p : Int × Int) (σ' : Nat → PV), o = p → Fr g_Fields_b0l σ0 σ' → (σ' 3 = (.int .i64 p.1) ∧ σ' 5 = (.int .u8 p.2)) → Q (.exit 0) σ' H) , W Tryz.prog (.loop ac180_b0) Q σ H := by
  intro k
  induction k with
  | zero => intro s_0 n_3 wasSpace_4 setBits_5 i_6 σ0 σ H f0 sl o h Q q0; simp only [g_Fields_b0, reduceCtorEq] at h
  | succ k ih =>
    intro s_0 n_3 wasSpace_4 setBits_5 i_6 σ0 σ H f0 sl o h Q q0
    obtain ⟨s0, s3, s4, s5, s6⟩ := sl
    unfold g_Fields_b0 at h
    refine W_loopK (fun K hK => W_start ?_)
    unfold ac180_b0
    rcases cond_E h with ⟨e1, h⟩ | ⟨e1, h⟩
    ·obtain ⟨e2, h⟩ := if_E h
     obtain ⟨x3, e4, h⟩ := bind_E h
     obtain ⟨e5, h⟩ := if_E h
     obtain ⟨x6, e7, h⟩ := bind_E h
     try refine go_ ?_
     refine hK _ _ ?_
     exact ih s_0 (IntKind.wrap .i64 (n_3 + (IntKind.wrap .i64 ((BitVec.ofInt (IntKind.bits .i64) wasSpace_4 &&& BitVec.ofInt (IntKind.bits .i64) (IntKind.wrap .i64 ((BitVec.ofInt (IntKind.bits .i64) (if IntKind.signed .i64 = true then -1 else IntKind.max .i64) ^^^ BitVec.ofInt (IntKind.bits .i64) (IntKind.wrap .i64 x6)).toNat))).toNat)))) (IntKind.wrap .i64 x6) (IntKind.wrap .u8 ((BitVec.ofInt (IntKind.bits .u8) setBits_5 ||| BitVec.ofInt (IntKind.bits .u8) (x3.toNat : Int)).toNat)) (IntKind.wrap .i64 (i_6 + 1)) _ _ _ fr_ sl_ _ h _ q0
    ·obtain rfl := som_E h
     try refine go_ ?_
     exact q0 _ _ rfl fr_ sl_
def g_Fields_b1 : Nat → Str → Int → Option Int
  | 0, _, _ => none
  | k + 1, s_0, i_12 =>
    cond (decide (i_12 < (s_0.length : Int))) (if 0 ≤ i_12 then Option.bind (s_0[i_12.toNat]?) fun x30 => if 0 ≤ (x30.toNat : Int) ∧ (x30.toNat : Int) < 256 then Option.bind (tab0[x30.toNat]?) fun x33 => cond (x33 != 0) (g_Fields_b1 k s_0 (IntKind.wrap .i64 (i_12 + 1))) (some (i_12)) else none else none) (some (i_12))
def g_Fields_b1l : List Nat := [12] ++ List.range' 42 14
theorem g_Fields_b1_W : ∀ (k : Nat) (s_0 : Str) (i_12 : Int) (σ0 σ : Nat → PV) (H : AH) (f0 : Fr g_Fields_b1l σ0 σ) (sl : σ 0 = (.str s_0) ∧ σ 12 = (.int .i64 i_12)) (o : Int) (h : g_Fields_b1 k s_0 i_12 = some o) (Q : Post) (q0 : ∀ (p : Int) (σ' : Nat → PV), o = p → Fr g_Fields_b1l σ0 σ' → (σ' 12 = (.int .i64 p)) → Q (.exit 2) σ' H) , W Tryz.prog (.loop ac180_b1) Q σ H := by
  intro k
  induction k with
  | zero => intro s_0 i_12 σ0 σ H f0 sl o h Q q0; simp only [g_Fields_b1, reduceCtorEq] at h
  | succ k ih =>
    intro s_0 i_12 σ0 σ H f0 sl o h Q q0
    obtain ⟨s0, s12⟩ := sl
    unfold g_Fields_b1 at h
    refine W_loopK (fun K hK => W_start ?_)
    unfold ac180_b1
    rcases cond_E h with ⟨e28, h⟩ | ⟨e28, h⟩
    ·obtain ⟨e29, h⟩ := if_E h
     obtain ⟨x30, e31, h⟩ := bind_E h
     obtain ⟨e32, h⟩ := if_E h
     obtain ⟨x33, e34, h⟩ := bind_E h
     rcases cond_E h with ⟨e35, h⟩ | ⟨e35, h⟩
     ·try refine go_ ?_
      refine hK _ _ ?_
      exact ih s_0 (IntKind.wrap .i64 (i_12 + 1)) _ _ _ fr_ sl_ _ h _ q0
     ·obtain rfl := som_E h
      try refine go_ ?_
      exact q0 _ _ rfl fr_ sl_
    ·obtain rfl := som_E h
     try refine go_ ?_
     exact q0 _ _ rfl fr_ sl_
def g_Fields_b2 : Nat → Str → Int → Option Int
  | 0, _, _ => none
  | k + 1, s_0, i_12 =>
    cond (decide (i_12 < (s_0.length : Int))) (if 0 ≤ i_12 then Option.bind (s_0[i_12.toNat]?) fun x73 => if 0 ≤ (x73.toNat : Int) ∧ (x73.toNat : Int) < 256 then Option.bind (tab0[x73.toNat]?) fun x76 => cond (x76 != 0) (g_Fields_b2 k s_0 (IntKind.wrap .i64 (i_12 + 1))) (some (i_12)) else none else none) (some (i_12))
def g_Fields_b2l : List Nat := [12] ++ List.range' 80 14
theorem g_Fields_b2_W : ∀ (k : Nat) (s_0 : Str) (i_12 : Int) (σ0 σ : Nat → PV) (H : AH) (f0 : Fr g_Fields_b2l σ0 σ) (sl : σ 0 = (.str s_0) ∧ σ 12 = (.int .i64 i_12)) (o : Int) (h : g_Fields_b2 k s_0 i_12 = some o) (Q : Post) (q0 : ∀ (p : Int) (σ' : Nat → PV), o = p → Fr g_Fields_b2l σ0 σ' → (σ' 12 = (.int .i64 p)) → Q (.exit 6) σ' H) , W Tryz.prog (.loop ac180_b2) Q σ H := by
  intro k
  induction k with
  | zero => intro s_0 i_12 σ0 σ H f0 sl o h Q q0; simp only [g_Fields_b2, reduceCtorEq] at h
  | succ k ih =>
    intro s_0 i_12 σ0 σ H f0 sl o h Q q0
    obtain ⟨s0, s12⟩ := sl
    unfold g_Fields_b2 at h
    refine W_loopK (fun K hK => W_start ?_)
    unfold ac180_b2
    rcases cond_E h with ⟨e71, h⟩ | ⟨e71, h⟩
    ·obtain ⟨e72, h⟩ := if_E h
     obtain ⟨x73, e74, h⟩ := bind_E h
     obtain ⟨e75, h⟩ := if_E h
     obtain ⟨x76, e77, h⟩ := bind_E h
     rcases cond_E h with ⟨e78, h⟩ | ⟨e78, h⟩
     ·try refine go_ ?_
      refine hK _ _ ?_
      exact ih s_0 (IntKind.wrap .i64 (i_12 + 1)) _ _ _ fr_ sl_ _ h _ q0
     ·obtain rfl := som_E h
      try refine go_ ?_
      exact q0 _ _ rfl fr_ sl_
    ·obtain rfl := som_E h
     try refine go_ ?_
     exact q0 _ _ rfl fr_ sl_
def g_Fields_b3 : Nat → Str → (List Str) → Int → Int → Int → Option (((List Str) × Int × Int))
  | 0, _, _, _, _, _ => none
  | k + 1, s_0, a_9, na_10, fieldStart_11, i_12 =>
    cond (decide (i_12 < (s_0.length : Int))) (if 0 ≤ i_12 then Option.bind (s_0[i_12.toNat]?) fun x48 => if 0 ≤ (x48.toNat : Int) ∧ (x48.toNat : Int) < 256 then Option.bind (tab0[x48.toNat]?) fun x51 => cond (x51 == 0) (g_Fields_b3 k s_0 a_9 na_10 fieldStart_11 (IntKind.wrap .i64 (i_12 + 1))) (if 0 ≤ fieldStart_11 ∧ fieldStart_11 ≤ i_12 ∧ i_12.toNat ≤ s_0.length then if 0 ≤ na_10 then Option.bind (a_9[na_10.toNat]?) fun x56 => Option.bind (g_Fields_b2 k s_0 (IntKind.wrap .i64 (i_12 + 1))) (fun p81 => g_Fields_b3 k s_0 (a_9.set na_10.toNat ((s_0.take i_12.toNat).drop fieldStart_11.toNat)) (IntKind.wrap .i64 (na_10 + 1)) p81 p81) else none else none) else none else none) (some ((a_9, na_10, fieldStart_11)))
def g_Fields_b3l : List Nat := [10, 11, 12] ++ List.range' 57 38
theorem g_Fields_b3_W : ∀ (k : Nat) (v_a_9 : PV) (ids_a_9 : List Nat) (M : List Nat) (s_0 : Str) (a_9 : List Str) (na_10 : Int) (fieldStart_11 : Int) (i_12 : Int) (σ0 σ : Nat → PV) (H0 H : AH) (f0 : Fr g_Fields_b3l σ0 σ) (hf0 : HF M H0 H) (sl : σ 0 = (.str s_0) ∧ σ 9 = v_a_9 ∧ σ 10 = (.int .i64 na_10) ∧ σ 11 = (.int .i64 fieldStart_11) ∧ σ 12 = (.int .i64 i_12)) (r_a_9 : RowN H strL 1 a_9 v_a_9 ids_a_9) (nw_a_9 : Nw H0 M ids_a_9) (o : ((List Str) × Int × Int)) (h : g_Fields_b3 k s_0 a_9 na_10 fieldStart_11 i_12 = some o) (Q : Post) (q0 : ∀ (p : (List Str) × Int × Int) (v0 : PV) (ids0 : List Nat) (σ' : Nat → PV) (H' : AH), o = p → Fr g_Fields_b3l σ0 σ' → HF M H0 H' → (σ' 9 = v0 ∧ σ' 10 = (.int .i64 p.2.1) ∧ σ' 11 = (.int .i64 p.2.2)) → RowN H' strL 1 p.1 v0 ids0 → Nw H0 M ids0 → Q (.exit 4) σ' H') , W Tryz.prog (.loop ac180_b3) Q σ H := by
  intro k
  induction k with
  | zero => intro v_a_9 ids_a_9 M s_0 a_9 na_10 fieldStart_11 i_12 σ0 σ H0 H f0 hf0 sl r_a_9 nw_a_9 o h Q q0; simp only [g_Fields_b3, reduceCtorEq] at h
  | succ k ih =>
    intro v_a_9 ids_a_9 M s_0 a_9 na_10 fieldStart_11 i_12 σ0 σ H0 H f0 hf0 sl r_a_9 nw_a_9 o h Q q0
    obtain ⟨s0, s9, s10, s11, s12⟩ := sl
    have hle0 := hf0.1
    unfold g_Fields_b3 at h
    refine W_loopK (fun K hK => W_start ?_)
    unfold ac180_b3
    rcases cond_E h with ⟨e46, h⟩ | ⟨e46, h⟩
    ·obtain ⟨e47, h⟩ := if_E h
     obtain ⟨x48, e49, h⟩ := bind_E h
     obtain ⟨e50, h⟩ := if_E h
     obtain ⟨x51, e52, h⟩ := bind_E h
     rcases cond_E h with ⟨e53, h⟩ | ⟨e53, h⟩
     ·try refine go_ ?_
      refine hK _ _ ?_
      exact ih v_a_9 ids_a_9 M s_0 a_9 na_10 fieldStart_11 (IntKind.wrap .i64 (i_12 + 1)) _ _ _ _ fr_ (by repeat (first | exact hf0 | refine HF.new ?_ | refine HF.tokd ?_ | refine HF.used ?_ | refine HF.put (by first | (right; omega) | (left; simp only [List.mem_cons, true_or, or_true])) ?_)) sl_ (by repeat (first | exact r_a_9 | apply RowN.new | refine RowN.put ?_ (fun hm => by have := RowN.lt r_a_9 _ hm; omega))) nw_a_9 _ h _ q0
     ·obtain ⟨e54, h⟩ := if_E h
      obtain ⟨e55, h⟩ := if_E h
      obtain ⟨x56, e57, h⟩ := bind_E h
      obtain ⟨w58, w59, hidw58, hil, w60, hC, hL, hD, hI⟩ := RowN.content r_a_9 e57
      have w61 := ne_next hil
      have w62 := ne_add hil
      have w63 : idxPV 1 v_a_9 (.int .i64 na_10) = some (.ref w58 (na_10.toNat)) := by simpa using hI .i64 na_10 (by first | omega | decide) (by first | rfl | omega)
      have w58c0 : w59[na_10.toNat]? = some (.str x56) := by simpa using hC 0 _ rfl
      clear hC hL hD hI
      try refine go_ ?_
      refine WO_rowset (f := strL) (id := w58) (o := na_10.toNat) (i := na_10.toNat) (j := 0) (a := x56) (y := ((s_0.take i_12.toNat).drop fieldStart_11.toNat)) (vs := [(.str ((s_0.take i_12.toNat).drop fieldStart_11.toNat))]) sl_ hidw58 (by omega) (by repeat (first | exact r_a_9 | apply RowN.new | refine RowN.put ?_ (fun hm => by have := RowN.lt r_a_9 _ hm; omega))) e57 sl_ rfl rfl (by first | decide | (simp only [List.length_cons, List.length_nil]; omega)) rfl (fun H66 r67 hf69 ok70 => ?_)
      have le := hf69.1
      try simp only [AH.new_next, AH.put_next, AH.tok_next, AH.use_next] at le
      try refine go_ ?_
      obtain ⟨o79, h80, h⟩ := bind_E h
      refine g_Fields_b2_W k s_0 (IntKind.wrap .i64 (i_12 + 1)) _ _ _ (Fr.refl _ _) sl_ _ h80 _ ?_
      ·rintro p81 σ' eo fr82 s85
       rw [eo] at h
       have s86 : σ' 0 = (.str s_0) := (fr82 0 (by decide)).trans sl_
       have s87 : σ' 9 = v_a_9 := (fr82 9 (by decide)).trans sl_
       have s88 : σ' 10 = (.int .i64 (IntKind.wrap .i64 (na_10 + 1))) := (fr82 10 (by decide)).trans sl_
       try refine go_ ?_
       refine hK _ _ ?_
       exact ih v_a_9 ids_a_9 M s_0 (a_9.set na_10.toNat ((s_0.take i_12.toNat).drop fieldStart_11.toNat)) (IntKind.wrap .i64 (na_10 + 1)) p81 p81 _ _ _ _ (by repeat (first | exact f0 | refine Fr.upd (by decide) ?_ | refine Fr.via fr82 (by decide) ?_)) (by repeat (first | exact hf0 | refine HF.new ?_ | refine HF.tokd ?_ | refine HF.used ?_ | refine HF.put (by first | (right; omega) | (left; simp only [List.mem_cons, true_or, or_true])) ?_ | refine HF.via hf69 nw_a_9 ?_)) sl_ (by repeat (first | exact r67 | apply RowN.new | refine RowN.put ?_ (fun hm => by have := RowN.lt r67 _ hm; omega))) nw_a_9 _ h _ q0
    ·obtain rfl := som_E h
     try refine go_ ?_
     exact q0 _ v_a_9 ids_a_9 _ _ rfl fr_ (by repeat (first | exact hf0 | refine HF.new ?_ | refine HF.tokd ?_ | refine HF.used ?_ | refine HF.put (by first | (right; omega) | (left; simp only [List.mem_cons, true_or, or_true])) ?_)) sl_ (by repeat (first | exact r_a_9 | apply RowN.new | refine RowN.put ?_ (fun hm => by have := RowN.lt r_a_9 _ hm; omega))) nw_a_9
def g_Fields (k : Nat) (s_0 : Str) : Option (List Str) :=
  Option.bind (g_Fields_b0 k s_0 0 1 0 0) (fun p10 => cond (decide (p10.2 ≥ 128)) (Option.bind (noFields s_0) fun p19 => some p19) (if 0 ≤ p10.1 ∧ p10.1 ≤ 1099511627776 ∧ 16 * p10.1 ≤ 1099511627776 then Option.bind (g_Fields_b1 k s_0 0) (fun p38 => Option.bind (g_Fields_b3 k s_0 (List.replicate p10.1.toNat []) 0 p38 p38) (fun p91 => cond (decide (p91.2.2 < (s_0.length : Int))) (if 0 ≤ p91.2.2 ∧ p91.2.2.toNat ≤ s_0.length then if 0 ≤ p91.2.1 then Option.bind (p91.1[p91.2.1.toNat]?) fun x106 => some (p91.1.set p91.2.1.toNat (s_0.drop p91.2.2.toNat)) else none else none) (some p91.1))) else none))
theorem g_Fields_c {k : Nat} {s_0 : Str} {r : List Str} (h : g_Fields k s_0 = some r) : PCall Tryz.prog 180 [(.str s_0)] (.isl (r.map strL) .unk) := by
  refine PCall.of_empty (PuL.mem (.cons (.str _) .nil)) (MCall_of_W ok180 (by simp) (W_start ?_)) (pu_sl pu_strL _)
  unfold g_Fields at h
  unfold ac180
  try refine go_ ?_
  obtain ⟨o8, h9, h⟩ := bind_E h
  refine g_Fields_b0_W k s_0 0 1 0 0 _ _ _ (Fr.refl _ _) sl_ _ h9 _ ?_
  ·rintro p10 σ' eo fr11 ⟨s14, s15⟩
   rw [eo] at h
   have s16 : σ' 0 = (.str s_0) := (fr11 0 (by decide)).trans sl_
   rcases cond_E h with ⟨e17, h⟩ | ⟨e17, h⟩
   ·obtain ⟨p19, e18, h⟩ := bind_E h
    try refine go_ ?_
    refine mcall_pure (noFields_c s_0 e18) ?_
    obtain rfl := som_E h
    try refine go_ ?_
    exact (fz_sl pu_strL p19 _)
   ·obtain ⟨e20, h⟩ := if_E h
    try refine go_ ?_
    refine WO_mkrow (f := strL) (k := .i64) (n := p10.1) (k' := .i64) (c := p10.1) [] rfl sl_ sl_ (by omega) (by decide) (fun v21 ids22 H23 r24 nw25 hf26 ok27 => ?_)
    have le := hf26.1
    try simp only [AH.new_next, AH.put_next, AH.tok_next, AH.use_next] at le
    try refine go_ ?_
    obtain ⟨o36, h37, h⟩ := bind_E h
    refine g_Fields_b1_W k s_0 0 _ _ _ (Fr.refl _ _) sl_ _ h37 _ ?_
    ·rintro p38 σ' eo fr39 s42
     rw [eo] at h
     have s43 : σ' 0 = (.str s_0) := (fr39 0 (by decide)).trans sl_
     have s44 : σ' 9 = v21 := (fr39 9 (by decide)).trans sl_
     have s45 : σ' 10 = (.int .i64 0) := (fr39 10 (by decide)).trans sl_
     try refine go_ ?_
     obtain ⟨o89, h90, h⟩ := bind_E h
     refine g_Fields_b3_W k v21 ids22 (ids22 ++ []) s_0 (List.replicate p10.1.toNat []) 0 p38 p38 _ _ _ _ (Fr.refl _ _) (HF.refl _ _) sl_ (by repeat (first | exact r24 | apply RowN.new | refine RowN.put ?_ (fun hm => by have := RowN.lt r24 _ hm; omega))) (fun i hi => Or.inl (by simp only [List.mem_append, List.mem_cons, hi, true_or, or_true])) _ h90 _ ?_
     ·rintro p91 v95 ids96 σ' H94 eo fr92 hf93 ⟨s99, s100, s101⟩ r97 nw98
      rw [eo] at h
      have s102 : σ' 0 = (.str s_0) := (fr92 0 (by decide)).trans sl_
      have le := hf93.1
      try simp only [AH.new_next, AH.put_next, AH.tok_next, AH.use_next] at le
      rcases cond_E h with ⟨e103, h⟩ | ⟨e103, h⟩
      ·obtain ⟨e104, h⟩ := if_E h
       obtain ⟨e105, h⟩ := if_E h
       obtain ⟨x106, e107, h⟩ := bind_E h
       obtain ⟨w108, w109, hidw108, hil, w110, hC, hL, hD, hI⟩ := RowN.content r97 e107
       have w111 := ne_next hil
       have w112 := ne_add hil
       have w113 : idxPV 1 v95 (.int .i64 p91.2.1) = some (.ref w108 (p91.2.1.toNat)) := by simpa using hI .i64 p91.2.1 (by first | omega | decide) (by first | rfl | omega)
       have w108c0 : w109[p91.2.1.toNat]? = some (.str x106) := by simpa using hC 0 _ rfl
       clear hC hL hD hI
       try refine go_ ?_
       refine WO_rowset (f := strL) (id := w108) (o := p91.2.1.toNat) (i := p91.2.1.toNat) (j := 0) (a := x106) (y := (s_0.drop p91.2.2.toNat)) (vs := [(.str (s_0.drop p91.2.2.toNat))]) sl_ hidw108 (by omega) (by repeat (first | exact r97 | apply RowN.new | refine RowN.put ?_ (fun hm => by have := RowN.lt r97 _ hm; omega))) e107 sl_ rfl rfl (by first | decide | (simp only [List.length_cons, List.length_nil]; omega)) rfl (fun H116 r117 hf119 ok120 => ?_)
       have le := hf119.1
       try simp only [AH.new_next, AH.put_next, AH.tok_next, AH.use_next] at le
       obtain rfl := som_E h
       try refine go_ ?_
       exact (RowN.fz pu_strL (by repeat (first | exact r117 | apply RowN.new | refine RowN.put ?_ (fun hm => by have := RowN.lt r117 _ hm; omega))))
      ·obtain rfl := som_E h
       try refine go_ ?_
       exact (RowN.fz pu_strL (by repeat (first | exact r97 | apply RowN.new | refine RowN.put ?_ (fun hm => by have := RowN.lt r97 _ hm; omega))))
def t_reserved (k : Nat) : Option (List Str) :=
  Option.bind (g_Fields k ([65, 83, 83, 85, 77, 69, 32, 65, 83, 83, 85, 77, 80, 84, 73, 79, 78, 32, 65, 88, 73, 79, 77, 32, 66, 89, 32, 67, 65, 83, 69, 32, 67, 72, 79, 79, 83, 69, 32, 67, 79, 78, 83, 84, 65, 78, 84, 32, 67, 79, 78, 83, 84, 65, 78, 84, 83, 32, 68, 69, 70, 32, 68, 69, 70, 73, 78, 69, 32, 68, 69, 70, 83, 32, 68, 79, 77, 65, 73, 78, 32, 69, 76, 83, 69, 32, 69, 78, 65, 66, 76, 69, 68, 32, 69, 88, 67, 69, 80, 84, 32, 69, 88, 84, 69, 78, 68, 83, 32, 70, 65, 76, 83, 69, 32, 72, 65, 86, 69, 32, 72, 73, 68, 69, 32, 73, 70, 32, 73, 78, 32, 73, 78, 83, 84, 65, 78, 67, 69, 32, 76, 65, 77, 66, 68, 65, 32, 76, 69, 77, 77, 65, 32, 76, 69, 84, 32, 76, 79, 67, 65, 76, 32, 77, 79, 68, 85, 76, 69, 32, 78, 69, 87, 32, 79, 66, 86, 73, 79, 85, 83, 32, 79, 77, 73, 84, 84, 69, 68, 32, 79, 84, 72, 69, 82, 32, 80, 73, 67, 75, 32, 80, 82, 79, 79, 70, 32, 80, 82, 79, 80, 79, 83, 73, 84, 73, 79, 78, 32, 80, 82, 79, 86, 69, 32, 81, 69, 68, 32, 82, 69, 67, 85, 82, 83, 73, 86, 69, 32, 83, 85, 66, 83, 69, 84, 32, 83, 85, 70, 70, 73, 67, 69, 83, 32, 84, 65, 75, 69, 32, 84, 72, 69, 78, 32, 84, 72, 69, 79, 82, 69, 77, 32, 84, 82, 85, 69, 32, 85, 78, 67, 72, 65, 78, 71, 69, 68, 32, 85, 78, 73, 79, 78, 32, 85, 83, 69, 32, 86, 65, 82, 73, 65, 66, 76, 69, 32, 86, 65, 82, 73, 65, 66, 76, 69, 83, 32, 87, 73, 84, 72, 32, 87, 73, 84, 78, 69, 83, 83, 32, 66, 79, 79, 76, 69, 65, 78, 32, 83, 84, 82, 73, 78, 71] : Str)) fun p2 => some p2
theorem t_reserved_c {k : Nat} {r : List Str} (h : t_reserved k = some r) : PCall Tryz.prog 126 [] (.isl (r.map strL) .unk) := by
  refine PCall.of_empty (PuL.mem .nil) (MCall_of_W ok126 (by simp) (W_start ?_)) (pu_sl pu_strL _)
  unfold t_reserved at h
  unfold ac126
  obtain ⟨p2, e1, h⟩ := bind_E h
  try refine gos_ ?_
  refine mcall_pure (g_Fields_c e1) ?_
  obtain rfl := som_E h
  try refine gos_ ?_
  exact (fz_sl pu_strL p2 _)
end Go.VL
end
section
namespace Go.VL
open Go.Proofs Go.RowKit
def resL : List Str := (t_reserved 800).getD []
theorem resL_some : t_reserved 800 = some resL := by
  have h : (t_reserved 800).isSome = true := by kernel_rfl
  rw [resL]; cases h1 : t_reserved 800 with
  | none => rw [h1] at h; cases h
  | some r => rfl
theorem resL_c : PCall Tryz.prog 126 [] (.isl (resL.map strL) .unk) := t_reserved_c resL_some
end Go.VL
end
section
set_option maxRecDepth 8000
set_option maxHeartbeats 4000000
namespace Go.VL
open Go.Proofs
def t_isName_p0 (k : Nat) (s_0 : Str) (t_10 : Bool) : Option Bool :=
  cond t_10 (some (true)) (Option.bind (g_HasPrefix_125 s_0 ([87, 70, 95] : Str)) fun p5 => cond p5 (some (true)) (Option.bind (g_HasPrefix_125 s_0 ([83, 70, 95] : Str)) fun p8 => cond p8 (some (true)) (Option.bind (g_Contains_string_string k resL s_0) fun p11 => some (p11))))
def t_isName_p0l : List Nat := List.range' 11 12
theorem t_isName_p0_W (k : Nat) : ∀ (s_0 : Str) (t_10 : Bool) (σ0 σ : Nat → PV) (H : AH) (f0 : Fr t_isName_p0l σ0 σ) (sl : σ 0 = (.str s_0) ∧ σ 10 = (.bool t_10)) (o : Bool) (h : t_isName_p0 k s_0 t_10 = some o) (Q : Post) (q0 : ∀ (p : Bool) (σ' : Nat → PV), o = p → Fr t_isName_p0l σ0 σ' → (σ' 22 = (.bool p)) → Q .normal σ' H) , WOps Tryz.prog ac77_p0 (Q .normal) σ H := by
  intro s_0 t_10 σ0 σ H f0 sl o h Q q0
  obtain ⟨s0, s10⟩ := sl
  unfold t_isName_p0 at h
  refine WO_start ?_
  unfold ac77_p0
  rcases cond_E h with ⟨e3, h⟩ | ⟨e3, h⟩
  ·obtain rfl := som_E h
   try refine gos_ ?_
   exact q0 _ _ rfl fr_ sls_
  ·obtain ⟨p5, e4, h⟩ := bind_E h
   try refine gos_ ?_
   refine mcall_pure (g_HasPrefix_125_c e4) ?_
   rcases cond_E h with ⟨e6, h⟩ | ⟨e6, h⟩
   ·obtain rfl := som_E h
    try refine gos_ ?_
    exact q0 _ _ rfl fr_ sls_
   ·obtain ⟨p8, e7, h⟩ := bind_E h
    try refine gos_ ?_
    refine mcall_pure (g_HasPrefix_125_c e7) ?_
    rcases cond_E h with ⟨e9, h⟩ | ⟨e9, h⟩
    ·obtain rfl := som_E h
     try refine gos_ ?_
     exact q0 _ _ rfl fr_ sls_
    ·try refine gos_ ?_
     refine mcall_pure (resL_c ) ?_
     obtain ⟨p11, e10, h⟩ := bind_E h
     try refine gos_ ?_
     refine mcall_pure (g_Contains_string_string_c e10) ?_
     obtain rfl := som_E h
     try refine gos_ ?_
     exact q0 _ _ rfl fr_ sls_
def t_isName_p1 (c_5 : Int) (t_34 : Bool) : Option Bool :=
  cond t_34 (some (true)) (Option.bind (t_spans (IntKind.wrap .i64 c_5) 65 90) fun p29 => some (p29))
theorem t_isName_p1_W : ∀ (c_5 : Int) (t_34 : Bool) (σ0 σ : Nat → PV) (H : AH) (f0 : Fr [35, 36, 37, 38] σ0 σ) (sl : σ 5 = (.int .u8 c_5) ∧ σ 34 = (.bool t_34)) (o : Bool) (h : t_isName_p1 c_5 t_34 = some o) (Q : Post) (q0 : ∀ (p : Bool) (σ' : Nat → PV), o = p → Fr [35, 36, 37, 38] σ0 σ' → (σ' 38 = (.bool p)) → Q .normal σ' H) , WOps Tryz.prog ac77_p1 (Q .normal) σ H := by
  intro c_5 t_34 σ0 σ H f0 sl o h Q q0
  obtain ⟨s5, s34⟩ := sl
  unfold t_isName_p1 at h
  refine WO_start ?_
  unfold ac77_p1
  rcases cond_E h with ⟨e27, h⟩ | ⟨e27, h⟩
  ·obtain rfl := som_E h
   try refine gos_ ?_
   exact q0 _ _ rfl fr_ sls_
  ·obtain ⟨p29, e28, h⟩ := bind_E h
   try refine gos_ ?_
   refine mcall_pure (t_spans_c e28) ?_
   obtain rfl := som_E h
   try refine gos_ ?_
   exact q0 _ _ rfl fr_ sls_
def t_isName_b0 : Nat → Int → (List Int) → Int → Int → Option (Int ⊕ Bool)
  | 0, _, _, _, _ => none
  | k + 1, letters_3, t_24, t_25, t_26 =>
    cond (decide (t_26 < t_25)) (if 0 ≤ t_26 then Option.bind (t_24[t_26.toNat]?) fun x23 => Option.bind (t_spans (IntKind.wrap .i64 x23) 97 122) fun p26 => Option.bind (t_isName_p1 x23 p26) (fun p32 => cond p32 (t_isName_b0 k (IntKind.wrap .i64 (letters_3 + 1)) t_24 t_25 (IntKind.wrap .i64 (t_26 + 1))) (Option.bind (t_spans (IntKind.wrap .i64 x23) 48 57) fun p44 => cond p44 (t_isName_b0 k letters_3 t_24 t_25 (IntKind.wrap .i64 (t_26 + 1))) (cond (x23 != 95) (some (.inr (false))) (t_isName_b0 k letters_3 t_24 t_25 (IntKind.wrap .i64 (t_26 + 1)))))) else none) (some (.inl letters_3))
def t_isName_b0l : List Nat := [2, 3, 5] ++ List.range' 26 25
theorem t_isName_b0_W : ∀ (k : Nat) (letters_3 : Int) (t_24 : List Int) (t_25 : Int) (t_26 : Int) (σ0 σ : Nat → PV) (H : AH) (f0 : Fr t_isName_b0l σ0 σ) (sl : σ 3 = (.int .i64 letters_3) ∧ σ 24 = (.isl (t_24.map u8L) .unk) ∧ σ 25 = (.int .i64 t_25) ∧ σ 26 = (.int .i64 t_26)) (o : Int ⊕ Bool) (h : t_isName_b0 k letters_3 t_24 t_25 t_26 = some o) (Q : Post) (q0 : ∀ (p : Int) (σ' : Nat → PV), o = .inl p → Fr t_isName_b0l σ0 σ' → (σ' 3 = (.int .i64 p)) → Q (.exit 0) σ' H) (q1 : ∀ (p : Bool) (σ' : Nat → PV), o = .inr (p) → Fr t_isName_b0l σ0 σ' → (σ' 2 = (.bool p)) → Q .ret σ' H) , W Tryz.prog (.loop ac77_b0) Q σ H := by
  intro k
  induction k with
  | zero => intro letters_3 t_24 t_25 t_26 σ0 σ H f0 sl o h Q q0 q1; simp only [t_isName_b0, reduceCtorEq] at h
  | succ k ih =>
    intro letters_3 t_24 t_25 t_26 σ0 σ H f0 sl o h Q q0 q1
    obtain ⟨s3, s24, s25, s26⟩ := sl
    unfold t_isName_b0 at h
    refine W_loopK (fun K hK => W_start ?_)
    unfold ac77_b0
    rcases cond_E h with ⟨e21, h⟩ | ⟨e21, h⟩
    ·obtain ⟨e22, h⟩ := if_E h
     obtain ⟨x23, e24, h⟩ := bind_E h
     obtain ⟨p26, e25, h⟩ := bind_E h
     try refine gos_ ?_
     refine mcall_pure (t_spans_c e25) ?_
     try refine gos_ ?_
     obtain ⟨o30, h31, h⟩ := bind_E h
     refine t_isName_p1_W x23 p26 _ _ _ (Fr.refl _ _) sls_ _ h31 _ ?_
     ·rintro p32 σ' eo fr33 s36
      rw [eo] at h
      have s37 : σ' 3 = (.int .i64 letters_3) := (fr33 3 (by decide)).trans sls_
      have s38 : σ' 5 = (.int .u8 x23) := (fr33 5 (by decide)).trans sls_
      have s39 : σ' 24 = (.isl (t_24.map u8L) .unk) := (fr33 24 (by decide)).trans sls_
      have s40 : σ' 25 = (.int .i64 t_25) := (fr33 25 (by decide)).trans sls_
      have s41 : σ' 26 = (.int .i64 t_26) := (fr33 26 (by decide)).trans sls_
      rcases cond_E h with ⟨e42, h⟩ | ⟨e42, h⟩
      ·try refine gos_ ?_
       refine hK _ _ ?_
       exact ih (IntKind.wrap .i64 (letters_3 + 1)) t_24 t_25 (IntKind.wrap .i64 (t_26 + 1)) _ _ _ (by repeat (first | exact f0 | refine Fr.upd (by decide) ?_ | refine Fr.via fr33 (by decide) ?_)) sls_ _ h _ q0 q1
      ·obtain ⟨p44, e43, h⟩ := bind_E h
       try refine gos_ ?_
       refine mcall_pure (t_spans_c e43) ?_
       rcases cond_E h with ⟨e45, h⟩ | ⟨e45, h⟩
       ·try refine gos_ ?_
        refine hK _ _ ?_
        exact ih letters_3 t_24 t_25 (IntKind.wrap .i64 (t_26 + 1)) _ _ _ (by repeat (first | exact f0 | refine Fr.upd (by decide) ?_ | refine Fr.via fr33 (by decide) ?_)) sls_ _ h _ q0 q1
       ·rcases cond_E h with ⟨e46, h⟩ | ⟨e46, h⟩
        ·obtain rfl := som_E h
         try refine gos_ ?_
         exact q1 _ _ rfl (by repeat (first | exact f0 | refine Fr.upd (by decide) ?_ | refine Fr.via fr33 (by decide) ?_)) sls_
        ·try refine gos_ ?_
         refine hK _ _ ?_
         exact ih letters_3 t_24 t_25 (IntKind.wrap .i64 (t_26 + 1)) _ _ _ (by repeat (first | exact f0 | refine Fr.upd (by decide) ?_ | refine Fr.via fr33 (by decide) ?_)) sls_ _ h _ q0 q1
    ·obtain rfl := som_E h
     try refine gos_ ?_
     exact q0 _ _ rfl fr_ sls_
def t_isName (k : Nat) (s_0 : Str) : Option Bool :=
  Option.bind (t_spans (s_0.length : Int) 1 24) fun p2 => Option.bind (t_isName_p0 k s_0 (!p2)) (fun p14 => cond p14 (some false) (Option.bind (t_isName_b0 k 0 (bytesI s_0) ((bytesI s_0).length : Int) 0) (fun o => Sum.elim (fun p49 => some (decide (p49 > 0))) (fun p54 => some p54) o)))
theorem t_isName_c {k : Nat} {s_0 : Str} {r : Bool} (h : t_isName k s_0 = some r) : PCall Tryz.prog 77 [(.str s_0)] (.bool r) := by
  refine PCall.of_empty (PuL.mem (.cons (.str _) .nil)) (MCall_of_W ok77 (by simp) (W_start ?_)) (.bool _)
  unfold t_isName at h
  unfold ac77
  obtain ⟨p2, e1, h⟩ := bind_E h
  try refine gos_ ?_
  refine mcall_pure (t_spans_c e1) ?_
  try refine gos_ ?_
  obtain ⟨o12, h13, h⟩ := bind_E h
  refine t_isName_p0_W k s_0 (!p2) _ _ _ (Fr.refl _ _) sls_ _ h13 _ ?_
  ·rintro p14 σ' eo fr15 s18
   rw [eo] at h
   have s19 : σ' 0 = (.str s_0) := (fr15 0 (by decide)).trans sls_
   rcases cond_E h with ⟨e20, h⟩ | ⟨e20, h⟩
   ·obtain rfl := som_E h
    try refine gos_ ?_
    exact (.pure _ (.bool _))
   ·try refine gos_ ?_
    obtain ⟨o47, h48, h⟩ := bind_E h
    refine t_isName_b0_W k 0 (bytesI s_0) ((bytesI s_0).length : Int) 0 _ _ _ (Fr.refl _ _) sls_ _ h48 _ ?_ ?_
    ·rintro p49 σ' eo fr50 s53
     subst eo
     rw [sum_L] at h
     obtain rfl := som_E h
     try refine gos_ ?_
     exact (.pure _ (.bool _))
    ·rintro p54 σ' eo fr55 s58
     subst eo
     rw [sum_R] at h
     obtain rfl := som_E h
     try refine gos_ ?_
     exact (.pure _ (.bool _))
def t_isCalled (k : Nat) (s_0 : Str) : Option Bool :=
  cond (decide ((s_0.length : Int) > 49)) (some false) (Option.bind (idx1 s_0 ([33] : Str)) fun p5 => cond (decide (p5 ≥ 0)) (if 0 ≤ p5 ∧ p5.toNat ≤ s_0.length then if 0 ≤ (IntKind.wrap .i64 (p5 + 1)) ∧ (IntKind.wrap .i64 (p5 + 1)).toNat ≤ s_0.length then Option.bind (t_isName k (s_0.take p5.toNat)) fun p10 => cond p10 (Option.bind (t_isName k (s_0.drop (IntKind.wrap .i64 (p5 + 1)).toNat)) fun p13 => some p13) (some false) else none else none) (Option.bind (t_isName k s_0) fun p15 => cond p15 (some true) (some false)))
theorem t_isCalled_c {k : Nat} {s_0 : Str} {r : Bool} (h : t_isCalled k s_0 = some r) : PCall Tryz.prog 146 [(.str s_0)] (.bool r) := by
  refine PCall.of_empty (PuL.mem (.cons (.str _) .nil)) (MCall_of_W ok146 (by simp) (W_start ?_)) (.bool _)
  unfold t_isCalled at h
  unfold ac146
  rcases cond_E h with ⟨e1, h⟩ | ⟨e1, h⟩
  ·obtain rfl := som_E h
   try refine gos_ ?_
   exact (.pure _ (.bool _))
  ·try refine gos_ ?_
   refine MCall_of_W ok187 (by simp) (W_start ?_)
   unfold ac187
   try refine gos_ ?_
   refine MCall_of_W ok207 (by simp) (W_start ?_)
   unfold ac207
   obtain ⟨p5, e4, h⟩ := bind_E h
   try refine gos_ ?_
   refine mcall_pure (idx1_c s_0 ([33] : Str) e4) ?_
   rcases cond_E h with ⟨e6, h⟩ | ⟨e6, h⟩
   ·try refine gos_ ?_
    refine WS_parS ?_
    obtain ⟨e7, h⟩ := if_E h
    obtain ⟨e8, h⟩ := if_E h
    obtain ⟨p10, e9, h⟩ := bind_E h
    try refine gos_ ?_
    refine mcall_pure (t_isName_c e9) ?_
    rcases cond_E h with ⟨e11, h⟩ | ⟨e11, h⟩
    ·obtain ⟨p13, e12, h⟩ := bind_E h
     try refine gos_ ?_
     refine mcall_pure (t_isName_c e12) ?_
     obtain rfl := som_E h
     try refine gos_ ?_
     exact (.pure _ (.bool _))
    ·obtain rfl := som_E h
     try refine gos_ ?_
     exact (.pure _ (.bool _))
   ·obtain ⟨p15, e14, h⟩ := bind_E h
    try refine gos_ ?_
    refine mcall_pure (t_isName_c e14) ?_
    rcases cond_E h with ⟨e16, h⟩ | ⟨e16, h⟩
    ·obtain rfl := som_E h
     try refine gos_ ?_
     exact (.pure _ (.bool _))
    ·obtain rfl := som_E h
     try refine gos_ ?_
     exact (.pure _ (.bool _))
end Go.VL
end
section
namespace Go.VL
open Go.Proofs Go.RowKit
theorem Vs.strfn {G : Gh} {n : Nat} {s : List UInt8} {g : FuncId} {vs : Array Value} (h : Vs G n [.str s, .fn (.func g) [] []] vs) : vs = #[.string ⟨s.toArray⟩, .func (.func g) #[] #[]] := by
  obtain ⟨h1, h2⟩ := h
  match vs, h1, h2 with
  | ⟨[v, u]⟩, _, h2 =>
    have e1 := h2 0 (.str s) v rfl rfl
    have e2 := h2 1 (.fn (.func g) [] []) u rfl rfl
    cases e1
    cases e2 with
    | fn g cs ds vs us h1 _ h3 _ =>
      have a1 : vs = #[] := Array.size_eq_zero_iff.1 h1
      have a2 : us = #[] := Array.size_eq_zero_iff.1 h3
      rw [a1, a2]
theorem predGrows {g : FuncId} {p : Nat → Bool} (hp : ∀ x : Nat, x ≤ 1114111 → PCall Tryz.prog g [.int .i32 x] (.bool (p x))) {w : World} (hg : ∀ a x, Glob.gc a = some x → w.cell? a = some x) : PredGrows Tryz.prog g #[] p w := by
  intro W x hx hb
  have hM : MCall Tryz.prog g [.int .i32 x] AH.empty fun v _ => v = .bool (p x) := MCall.mono (hp x hx AH.empty) fun v H' q => q.1
  refine (MCall.top hM (fun a y e => (World.cell?_of_block (hb.block _ (World.block_lt_of_cell? w a (hg a y e)))).trans (hg a y e)) (vs := #[encR x] ++ #[]) ?_)
  exact ⟨rfl, fun j c y e e' => by
    match j, e, e' with
    | 0, e, e' => cases e; cases e'; exact .int _ _⟩
theorem containsFunc_c {g : FuncId} (p : Nat → Bool) (he : ∀ args w, (callFunc g args).run Tryz.prog w = .ok (.enter g args) w) (hp : ∀ x : Nat, x ≤ 1114111 → PCall Tryz.prog g [.int .i32 x] (.bool (p x))) (s : Str) :
    PCall Tryz.prog 143 [.str s, .fn (.func g) [] []] (.bool (decide (0 ≤ Lib.idxFunc p true ⟨s.toArray⟩))) := by
  refine pcall_of ⟨_, Tryz.func143, rfl, by kernel_rfl⟩ (fun w G vs hg hi hv => ?_) (PuL.mem (.cons (.str _) (.cons (.fn _ _ _ (PuL.mem .nil) (PuL.mem .nil)) .nil)))
  rw [Vs.strfn hv]
  refine (Tryz.strings_ContainsFunc_grows g #[] he p ⟨s.toArray⟩ w (predGrows hp hg)).mono ?_
  rintro e w' ⟨rfl, hb⟩
  exact ⟨_, rfl, hb, fun G n => .bool _⟩
def mul64 (x y : Int) : Int × Int := (((x.toNat * y.toNat / 18446744073709551616 : Nat) : Int), ((x.toNat * y.toNat % 18446744073709551616 : Nat) : Int))
theorem Vs.two64 {G : Gh} {n : Nat} {x y : Int} {k k' : IntKind} {vs : Array Value} (h : Vs G n [.int k x, .int k' y] vs) : vs = #[.int k x, .int k' y] := by
  obtain ⟨h1, h2⟩ := h
  match vs, h1, h2 with
  | ⟨[v, u]⟩, _, h2 =>
    have e1 := h2 0 (.int k x) v rfl rfl
    have e2 := h2 1 (.int k' y) u rfl rfl
    cases e1; cases e2; rfl
theorem mul64_c (x y : Int) (h : (0 ≤ x ∧ x < 18446744073709551616) ∧ (0 ≤ y ∧ y < 18446744073709551616)) : PCall Tryz.prog 189 [.int .u64 x, .int .u64 y] (.tup [.int .u64 (mul64 x y).1, .int .u64 (mul64 x y).2]) := by
  refine pcall_of ⟨_, Tryz.func189, rfl, by kernel_rfl⟩ (fun w G vs hg hi hv => ?_) (PuL.mem (.cons (.int _ _) (.cons (.int _ _) .nil)))
  rw [Vs.two64 hv]
  obtain ⟨a, rfl⟩ : ∃ a : Nat, x = a := ⟨x.toNat, by omega⟩
  obtain ⟨b, rfl⟩ : ∃ b : Nat, y = b := ⟨y.toNat, by omega⟩
  refine (Tryz.bits_Mul64 a b (by omega) (by omega) w).mono ?_
  rintro e w' ⟨rfl, rfl⟩
  refine ⟨_, rfl, Below.refl _ _, fun G n => ?_⟩
  refine .tup _ _ rfl fun j c y e e' => ?_
  match j, e, e' with
  | 0, e, e' => cases e; cases e'; exact .int _ _
  | 1, e, e' => cases e; cases e'; exact .int _ _
end Go.VL
end
section
namespace Go.VL
open Go.Proofs Go.RowKit
theorem idxFrom_any (p : Nat → Bool) (hp : ∀ x, 128 ≤ x → p x = true) (s : Str) : ∀ (f pos : Nat), s.length ≤ pos + f →
    decide (0 ≤ Lib.idxFuncFrom p true ⟨s.toArray⟩ f pos) = (s.drop pos).any (fun c => p c.toNat)
  | 0, pos, h => by rw [List.drop_eq_nil_of_le (by omega)]; rfl
  | f + 1, pos, h => by
    have hsz : (⟨s.toArray⟩ : ByteArray).size = s.length := rfl
    by_cases hlt : pos < s.length
    · have hlt' : pos < (⟨s.toArray⟩ : ByteArray).size := hlt
      have hget : (⟨s.toArray⟩ : ByteArray)[pos]'hlt' = s[pos] := rfl
      rw [List.drop_eq_getElem_cons hlt, List.any_cons]
      simp only [Lib.idxFuncFrom, hsz, hlt, if_true]
      by_cases ha : (s[pos]).toNat < 128
      · rw [decode_ascii ⟨s.toArray⟩ pos hlt' (by rw [hget]; exact ha), hget]
        by_cases hq : p (s[pos]).toNat = true
        · simp only [hq, if_true, Bool.true_or]
          exact decide_eq_true (by omega)
        · simp only [hq, Bool.false_or]
          exact idxFrom_any p hp s f (pos + 1) (by omega)
      · have hd := decode_high ⟨s.toArray⟩ pos hlt' (by rw [hget]; omega)
        rw [if_pos (hp _ hd.1), hp _ (by omega), Bool.true_or]
        exact decide_eq_true (by omega)
    · rw [List.drop_eq_nil_of_le (by omega), Lib.idxFuncFrom_end _ _ _ _ _ (by rw [hsz]; exact hlt)]; rfl
theorem idx_any (p : Nat → Bool) (hp : ∀ x, 128 ≤ x → p x = true) (s : Str) : decide (0 ≤ Lib.idxFunc p true ⟨s.toArray⟩) = s.any (fun c => p c.toNat) := by
  have h := idxFrom_any p hp s s.length 0 (by omega)
  rw [List.drop_zero] at h
  exact h
def oddR (x : Nat) : Bool := bif decide (32 ≤ x) && decide (x ≤ 126) then x == 34 || x == 92 else true
theorem oddR_some (x : Nat) (h : x ≤ 1114111) : t_isText_1 (x : Int) = some (oddR x) := by
  have hw : IntKind.wrap .i64 (x : Int) = x := IntWalk.i64_in _ (by omega)
  unfold t_isText_1 t_spans oddR
  rw [hw]
  by_cases h1 : 32 ≤ x
  · have h1' : (32 : Int) ≤ x := by omega
    by_cases h2 : x ≤ 126
    · have h2' : (x : Int) ≤ 126 := by omega
      have e1 : ((x : Int) == 34) = (x == 34) := by rw [Bool.eq_iff_iff]; simp only [beq_iff_eq]; omega
      have e2 : ((x : Int) == 92) = (x == 92) := by rw [Bool.eq_iff_iff]; simp only [beq_iff_eq]; omega
      simp only [h1, h1', h2, h2', decide_true, cond_true, Bool.and_true, Option.bind_some, e1, e2]
      cases x == 34 <;> rfl
    · have h2' : ¬ (x : Int) ≤ 126 := by omega
      simp [h1, h1', h2, h2']
  · have h1' : ¬ (32 : Int) ≤ x := by omega
    simp [h1, h1']
def odds (s : Str) : Bool := s.any (fun c => oddR c.toNat)
theorem odds_c (s : Str) : PCall Tryz.prog 143 [.str s, .fn (.func 142) [] []] (.bool (odds s)) := by
  have h := containsFunc_c (g := 142) oddR (fun args w => by kernel_rfl) (fun x hx => t_isText_1_c (oddR_some x hx)) s
  rw [idx_any oddR (fun x hx => by
    have h2 : ¬ x ≤ 126 := by omega
    simp [oddR, h2]) s] at h
  exact h
end Go.VL
end
section
set_option maxRecDepth 8000
set_option maxHeartbeats 4000000
namespace Go.VL
open Go.Proofs
def t_isText (s_0 : Str) : Option Bool :=
  cond (decide ((s_0.length : Int) ≤ 40)) (some (!(odds s_0))) (some false)
theorem t_isText_c {s_0 : Str} {r : Bool} (h : t_isText s_0 = some r) : PCall Tryz.prog 92 [(.str s_0)] (.bool r) := by
  refine PCall.of_empty (PuL.mem (.cons (.str _) .nil)) (MCall_of_W ok92 (by simp) (W_start ?_)) (.bool _)
  unfold t_isText at h
  unfold ac92
  rcases cond_E h with ⟨e1, h⟩ | ⟨e1, h⟩
  ·try refine gos_ ?_
   refine mcall_pure (odds_c s_0) ?_
   obtain rfl := som_E h
   try refine gos_ ?_
   exact (.pure _ (.bool _))
  ·obtain rfl := som_E h
   try refine gos_ ?_
   exact (.pure _ (.bool _))
end Go.VL
end
section
namespace Go.VL
variable [Glob]
section
variable {P : Program} {Q : Post} {σ : Nat → PV} {s : List Fm} {α β : Type} {H : AH} {f : α → List PV} {sz : Nat} {g : β → List PV} {sz2 : Nat}
def Mk (f : α → List PV) (sz : Nat) (xs : List α) (H : AH) (v : PV) (H' : AH) : Prop := ∃ ids, RowN H' f sz xs v ids ∧ Nw H [] ids ∧ HF [] H H' ∧ ∀ c3, okc H c3 → okc H' c3
def RowMk (P : Program) (g : FuncId) (args : List PV) (f : α → List PV) (sz : Nat) (xs : List α) : Prop := ∀ H, MCall P g args H (Mk f sz xs H)
theorem MC_row {d : Option Nat} {g : FuncId} {args : List PV} {l : List AOp} {xs : List α} (hm : RowMk P g args f sz xs)
    (h : ∀ (v' : PV) (ids' : List Nat) (H' : AH), RowN H' f sz xs v' ids' → Nw H [] ids' → HF [] H H' → (∀ c3, okc H c3 → okc H' c3) → WO P l s Q (upd σ d v') H') : MC P g args d l s Q σ H :=
  MCall.mono (hm H) fun v H' ⟨ids, h1, h2, h3, h4⟩ => h v ids H' h1 h2 h3 h4
theorem mk_mksl {bytes : Nat} {zero : List PV} {x y : AE} [hr : RowF f sz] (z : α) (hz : f z = zero) {k k' : IntKind} {n : Int} (hx : x.ev σ = .int k n) (hy : y.ev σ = .int k' n)
    (hb : 0 ≤ n ∧ n ≤ 1099511627776 ∧ bytes * n ≤ 1099511627776) (hs : 0 < sz) : WOp P (.d (.mksl sz bytes zero x y)) (Mk f sz (List.replicate n.toNat z) H) σ H := by
  have h := WO_mkrow (P := P) (s := []) (Q := fun e σ' H' => ∃ v, σ' = upd σ (some 0) v ∧ Mk f sz (List.replicate n.toNat z) H v H') (d := some 0) (l := []) (H := H) (bytes := bytes) (x := x) (y := y) z hz hx hy ⟨hb.1, Int.le_refl _, hb.2.1, hb.2.2⟩ hs
    (fun v' ids' H' h1 h2 h3 h4 => ⟨v', rfl, ids', h1, h2, h3, h4⟩)
  have h2 : WD P (dop (.mksl sz bytes zero x y) σ H) (some 0) [] [] (fun e σ' H' => ∃ v, σ' = upd σ (some 0) v ∧ Mk f sz (List.replicate n.toNat z) H v H') σ := h
  show (match dop (.mksl sz bytes zero x y) σ H with | some (p, H') => Mk f sz (List.replicate n.toNat z) H p H' | none => False)
  revert h2
  cases dop (.mksl sz bytes zero x y) σ H with
  | none => intro h2; exact h2
  | some q =>
    intro h2
    obtain ⟨v, e, h3⟩ := (h2 : ∃ v, upd σ (some 0) q.1 = upd σ (some 0) v ∧ Mk f sz (List.replicate n.toNat z) H v q.2)
    have e2 := congrFun e 0
    simp only [upd, if_true] at e2
    show Mk f sz (List.replicate n.toNat z) H q.1 q.2
    rw [e2]; exact h3
theorem mk_call {g : FuncId} {fs cs args : List PV} {es : List AE} {xs : List α} (hm : RowMk P g args f sz xs) (ha : fs ++ evs σ es ++ cs = args) : WOp P (.call (.c (.fn (.func g) fs cs)) es) (Mk f sz xs H) σ H := by
  show MCall P g (fs ++ evs σ es ++ cs) H _
  rw [ha]; exact hm H
def PureL (P : Program) : List (AOp × Bool) → (Nat → PV) → (Nat → PV) → Prop
  | [], _, _ => True
  | (o, d) :: l, val, σ => (d = true ∨ (o.g = none ∧ ∀ H, WOp P o.k (fun r H'' => r = val 0 ∧ H'' = H) σ H)) ∧ PureL P l (fun i => val (i + 1)) (upd σ o.dst (val 0))
theorem PureL.at {P : Program} : ∀ {pr : List (AOp × Bool)} {val σ : Nat → PV} (h : PureL P pr val σ) (i : Nat) (o : AOp), pr[i]? = some (o, false) → gOn o (slF pr val σ i) ∧ ∀ H, WOp P o.k (fun r H'' => r = val i ∧ H'' = H) (slF pr val σ i) H
  | (o, d) :: l, val, σ, h, 0, o', e => by
    cases e
    rcases h.1 with h1 | ⟨h1, h2⟩
    · cases h1
    · refine ⟨?_, h2⟩
      unfold gOn; rw [h1]; trivial
  | (o, d) :: l, val, σ, h, i + 1, o', e => PureL.at (pr := l) h.2 i o' e
theorem par_rows2 {ms : List Nat} {pr : List (AOp × Bool)} {K : (Nat → PV) → AH → Prop} {a b : Nat} {oa ob : AOp} {xs : List α} {ys : List β} (valf : PV → PV → Nat → PV) (hr : rems pr = [a, b]) (hne : a ≠ b)
    (pra : pr[a]? = some (oa, true)) (prb : pr[b]? = some (ob, true)) (ha : ∀ x y, valf x y a = x) (hb : ∀ x y, valf x y b = y)
    (agA : ∀ x x' y i, i ≠ a → befB ms a i = false → valf x y i = valf x' y i) (agB : ∀ x y y' i, i ≠ b → befB ms b i = false → valf x y i = valf x y' i)
    (pure : ∀ x y, PureL P pr (valf x y) σ)
    (mkA : ∀ y H, gOn oa (slF pr (valf ud y) σ a) ∧ WOp P oa.k (Mk f sz xs H) (slF pr (valf ud y) σ a) H)
    (mkB : ∀ x H, gOn ob (slF pr (valf x ud) σ b) ∧ WOp P ob.k (Mk g sz2 ys H) (slF pr (valf x ud) σ b) H)
    (hend : ∀ va vb ida idb H2, RowN H2 f sz xs va ida → RowN H2 g sz2 ys vb idb → Dj ida idb → Nw H [] ida → Nw H [] idb → HF [] H H2 → (∀ c3, okc H c3 → okc H2 c3) → K (slF pr (valf va vb) σ pr.length) H2) :
    ∃ val : Nat → PV, WSp P ms pr K σ (rems pr).length (rems pr) val H := by
  refine ⟨valf ud ud, ?_⟩
  rw [hr]
  have hpure : ∀ (rem : List Nat) (x y : PV) (H : AH) (i : Nat) (o : AOp), pr[i]? = some (o, false) → (∀ s ∈ rem, befB ms s i = false) →
      (gOff o (slF pr (valf x y) σ i) ∧ valf x y i = ud) ∨ (gOn o (slF pr (valf x y) σ i) ∧ WOp P o.k (fun r H'' => r = valf x y i ∧ H'' = H) (slF pr (valf x y) σ i) H) :=
    fun rem x y H i o e _ => .inr ⟨((pure x y).at i o e).1, ((pure x y).at i o e).2 H⟩
  have hfa : [a, b].filter (· != a) = [b] := by simp [Ne.symm hne]
  have hfb : [a, b].filter (· != b) = [a] := by simp [hne]
  have hj : ∀ {ida idb : List Nat} {H1 : AH}, (∀ i ∈ ida, i < H1.next) → Nw H1 [] idb → Dj ida idb := fun h1 h2 i hi hj => by
    rcases h2 i hj with q | q
    · cases q
    · have := h1 i hi; omega
  have hnw : ∀ {H1 : AH} {idb : List Nat}, HF [] H H1 → Nw H1 [] idb → Nw H [] idb := fun h1 h2 i hi => by
    rcases h2 i hi with q | q
    · exact .inl q
    · exact .inr (Nat.le_trans h1.1 q)
  have hft : ∀ {H1 H2 : AH}, HF [] H H1 → HF [] H1 H2 → HF [] H H2 := fun h1 h2 => ⟨Nat.le_trans h1.1 h2.1, fun i hi hm => (h2.2 i (Nat.lt_of_lt_of_le hi h1.1) hm).trans (h1.2 i hi hm)⟩
  unfold WSp
  refine ⟨hpure _ ud ud H, (fun e => by cases e), fun j hj' o e hbj => ?_⟩
  rcases List.mem_cons.1 hj' with rfl | hj'
  · rw [pra] at e; cases e
    refine ⟨(mkA ud H).1, WOp_mono (fun va H1 hm => ?_) (mkA ud H).2⟩
    obtain ⟨ida, a1, a2, a3, a4⟩ := hm
    refine ⟨valf va ud, fun i hi hbi => ?_, ha _ _, ?_⟩
    · exact agA _ _ _ i (fun q => hi (q ▸ List.mem_cons_self ..)) (hbi _ (List.mem_cons_self ..))
    · rw [hfa]
      unfold WSp
      refine ⟨hpure _ va ud H1, (fun e => by cases e), fun j hj2 o e hbj => ?_⟩
      rw [List.mem_singleton.1 hj2] at e ⊢
      rw [prb] at e; cases e
      refine ⟨(mkB va H1).1, WOp_mono (fun vb H2 hm => ?_) (mkB va H1).2⟩
      obtain ⟨idb, b1, b2, b3, b4⟩ := hm
      refine ⟨valf va vb, fun i hi hbi => agB _ _ _ i (fun q => hi (q ▸ List.mem_cons_self ..)) (hbi _ (List.mem_cons_self ..)), hb _ _, ?_⟩
      have hf : [b].filter (· != b) = [] := by simp
      rw [hf]
      unfold WSp
      exact ⟨hpure _ va vb H2, fun _ => hend va vb ida idb H2 (a1.hf b3 Dj.nil.symm) b1 (hj (fun i hi => a1.lt i hi) b2) a2 (hnw a3 b2) (hft a3 b3) (fun c3 h => b4 c3 (a4 c3 h)), rfl⟩
  · rw [List.mem_singleton.1 hj'] at e ⊢
    rw [prb] at e; cases e
    refine ⟨(mkB ud H).1, WOp_mono (fun vb H1 hm => ?_) (mkB ud H).2⟩
    obtain ⟨idb, b1, b2, b3, b4⟩ := hm
    refine ⟨valf ud vb, fun i hi hbi => ?_, hb _ _, ?_⟩
    · exact agB _ _ _ i (fun q => hi (q ▸ List.mem_cons_of_mem _ (List.mem_cons_self ..))) (hbi _ (List.mem_cons_of_mem _ (List.mem_cons_self ..)))
    · rw [hfb]
      unfold WSp
      refine ⟨hpure _ ud vb H1, (fun e => by cases e), fun j hj2 o e hbj => ?_⟩
      rw [List.mem_singleton.1 hj2] at e ⊢
      rw [pra] at e; cases e
      refine ⟨(mkA vb H1).1, WOp_mono (fun va H2 hm => ?_) (mkA vb H1).2⟩
      obtain ⟨ida, a1, a2, a3, a4⟩ := hm
      refine ⟨valf va vb, fun i hi hbi => agA _ _ _ i (fun q => hi (q ▸ List.mem_cons_self ..)) (hbi _ (List.mem_cons_self ..)), ha _ _, ?_⟩
      have hf : [a].filter (· != a) = [] := by simp
      rw [hf]
      unfold WSp
      exact ⟨hpure _ va vb H2, fun _ => hend va vb ida idb H2 a1 (b1.hf a3 Dj.nil.symm) (Dj.symm (hj (fun i hi => b1.lt i hi) a2)) (hnw b3 a2) b2 (hft b3 a3) (fun c3 h => a4 c3 (b4 c3 h)), rfl⟩
theorem WS_par2 {ms : List Nat} {pr : List (AOp × Bool)} {post : List AOp} (h : ∃ val : Nat → PV, WSp P ms pr (fun σ H => WO P post s Q σ H) σ (rems pr).length (rems pr) val H) : WS P (.par2 ms pr post) s Q σ H := h
end
end Go.VL
end
section
namespace Go.VL
open Go.Proofs Go.RowKit
theorem nil_V {G : Gh} {m : Nat} {v : Value} (h : V G m (.isl [] .nil) v) : v = .slice none 0 0 := by
  generalize hp : PV.isl [] .nil = p at h
  cases h with
  | isl es c sz ad cap f h1 h2 h3 h4 h5 =>
    cases hp
    have q1 := h5.1
    have q2 := h5.2.2
    rw [q1, q2]; rfl
  | _ => cases hp
theorem Vs.nilint {G : Gh} {m : Nat} {n : Int} {vs : Array Value} (h : Vs G m [.isl [] .nil, .int .i64 n] vs) : vs = #[.slice none 0 0, .int .i64 n] := by
  obtain ⟨h1, h2⟩ := h
  match vs, h1, h2 with
  | ⟨[v, u]⟩, _, h2 =>
    have e1 := h2 0 (.isl [] .nil) v rfl rfl
    have e2 := h2 1 (.int .i64 n) u rfl rfl
    cases e2
    have e3 := nil_V e1
    rw [e3]
theorem zsize (zs : Array Value) (k : Nat) : (Builtin.zeroCells zs k).size = k * zs.size := by simp [Builtin.zeroCells]
theorem grow167_c (n : Int) (h : 0 < n ∧ n ≤ 1000000) : RowMk Tryz.prog 167 [.isl [] .nil, .int .i64 n] Operator.cells 7 [] := by
  intro H
  refine ⟨⟨_, Tryz.func167, rfl, by kernel_rfl⟩, fun B G w vs hU hM hv => ?_⟩
  obtain ⟨n, rfl⟩ : ∃ k : Nat, n = k := ⟨n.toNat, by omega⟩
  rw [Vs.nilint hv]
  obtain ⟨i0, hi0, hq⟩ : ∃ i0, Tryz.prog.info? (Tryz.growOp_ren.t 25) = some i0 ∧ (i0.zero.map fun z => z.cells.size) = some 7 ∧ i0.size = 7 ∧ i0.bytes = 64 := by
    have h : (Tryz.prog.info? (Tryz.growOp_ren.t 25)).map (fun i0 => ((i0.zero.map fun z => z.cells.size), i0.size, i0.bytes)) = some (some 7, 7, 64) := by kernel_rfl
    cases hi : Tryz.prog.info? (Tryz.growOp_ren.t 25) with
    | none => rw [hi] at h; cases h
    | some i0 => rw [hi] at h; simp only [Option.map_some, Option.some.injEq, Prod.mk.injEq] at h; exact ⟨i0, rfl, h.1, h.2.1, h.2.2⟩
  obtain ⟨hz, hs, hb⟩ := hq
  obtain ⟨z, hz0, hz1⟩ := Option.map_eq_some_iff.1 hz
  have key := Any8.slices_Grow_grow Tryz.growOp i0 z hi0 hz0 (by omega) none 0 0 n [] w (Nat.le_refl _) (by omega) (by rw [hb]; omega) (by omega) (by simp) (fun _ => rfl) (fun a e => by cases e)
  have hge := grownCap_ge w (0 + n) 0 (Tryz.growOp_ren.t 25)
  refine key.mono ?_
  rintro e w' ⟨rfl, rfl⟩
  obtain ⟨G', e1, e2, e3⟩ := HM.newObj (w := w.drew) hU hM.drew (Tryz.growOp_ren.t 25) (Vs.rep_any (G := G) H.next (grownCap w (0 + n) 0 (Tryz.growOp_ren.t 25) * 7) _ (by
    show ((#[] : Array Value) ++ Builtin.zeroCells z.cells (0 + n - 0) ++ Builtin.zeroCells z.cells (grownCap w (0 + n) 0 (Tryz.growOp_ren.t 25) - (0 + n))).size = _
    rw [Array.size_append, Array.size_append, zsize, zsize, hz1]
    simp only [Array.size_empty]; omega))
  refine ⟨_, _, _, G', rfl, Tr.drewAlloc w _, e1, Nat.le_succ _, e2, .msl H.next 0 0 _ 7 _ (Nat.lt_succ_self _) e3, [H.next], .inr ⟨H.next, _, List.replicate (grownCap w (0 + n) 0 (Tryz.growOp_ren.t 25) * 7) .any, rfl, rfl, Nat.zero_le _, Nat.lt_succ_self _, ?_, ?_⟩, ?_, (HF.refl _ _).new, fun c3 hc => hc.new⟩
  · show (if H.next = H.next then some _ else _) = _
    rw [if_pos rfl]; rfl
  · rw [List.length_replicate, List.length_nil, Nat.sub_zero]
  · intro i hi; rw [List.mem_singleton.1 hi]; exact .inr (Nat.le_refl _)
end Go.VL
end
