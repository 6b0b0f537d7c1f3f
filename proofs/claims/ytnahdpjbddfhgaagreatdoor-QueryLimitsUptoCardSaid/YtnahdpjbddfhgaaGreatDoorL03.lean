/- A part of the proof: the program logic AL, the walks of the functions that the law calls, what they compute. No condition of its own. -/
import Derived.Test.YtnahdpjbddfhgaaGreatDoorL02
import Derived.Test.YtnahdpjbddfhgaaGreatDoorProg
import Derived.KernelRfl
import Derived.Shelf.Unicode.ValidAny
import Derived.Shelf.Strings.Builder1
import Derived.Shelf.Strings.Builder2
import Derived.Shelf.Small.Utf8
import Derived.Shelf.Small.Bits
import Derived.Shelf.Small.Strs
import Derived.Shelf.Utf8.RuneCount
import Derived.Shelf.Strconv.Itoa0
import Derived.Shelf.Strings.Search1
import Derived.Shelf.Strings.Search2
import Derived.Shelf.Strings.Search3
import Derived.Shelf.Strings.Count
import Derived.Shelf.LaysM
import Derived.Shelf.Strings.Shaped
import Derived.Shelf.Strings.Split
import Derived.Shelf.Strings.Replace
import Derived.Shelf.Strings.SplitShaped
import Derived.Shelf.Unicode.Decode
import Derived.Shelf.Strings.Runes
import Derived.Shelf.Strings.RuneCount
import Derived.Shelf.Strings.AsciiSet
import Derived.Shelf.Unicode.DecodeSlow
import Derived.Shelf.Unicode.DecodeAny
import Derived.Shelf.Unicode.DecodeLast
import Derived.Ground.Names2Prog
import Derived.Shelf.Slices.Clone
import Derived.Shelf.Slices.SearchI
import Derived.Ground.SlgnProg
import Derived.Shelf.SlicesE.Clone
set_option linter.unusedVariables false
set_option linter.unusedSimpArgs false
namespace Go.Proofs.YtnahdpjbddfhgaaGreatDoor
open Go Go.AL
theorem ak222 : arrK Tryz.prog 222 = some (2, false, 1) := by kernel_rfl
theorem ak71 : arrK Tryz.prog 71 = some (4, false, 1) := by kernel_rfl
theorem bk114 : bldK Tryz.prog 114 = some ([(0, 1)], [.pointer none]) := by kernel_rfl
theorem bk119 : bldK Tryz.prog 119 = some ([(0, 1), (1, 1), (2, 1), (3, 1)], [.slice none 0 0, .slice none 0 0, .int .i64 0, .int .i64 0]) := by kernel_rfl
theorem bk121 : bldK Tryz.prog 121 = some ([(0, 1)], [.int .i64 0]) := by kernel_rfl
theorem bk126 : bldK Tryz.prog 126 = some ([(0, 1), (1, 1)], [.slice none 0 0, .bool false]) := by kernel_rfl
theorem bk149 : bldK Tryz.prog 149 = some ([(0, 1), (1, 1), (2, 1), (3, 1), (4, 1)], [.int .i64 0, .slice none 0 0, .int .i64 0, .int .i64 0, .slice none 0 0]) := by kernel_rfl
theorem bk154 : bldK Tryz.prog 154 = some ([(0, 1), (1, 1)], [.slice none 0 0, .slice none 0 0]) := by kernel_rfl
theorem bk157 : bldK Tryz.prog 157 = some ([(0, 1), (1, 1), (2, 1), (3, 1)], [.int .i64 0, .int .i64 0, .int .i64 0, .slice none 0 0]) := by kernel_rfl
theorem bk222 : bldK Tryz.prog 222 = some ([(0, 1), (1, 1)], [.int .i32 0, .int .i32 0]) := by kernel_rfl
theorem bk26 : bldK Tryz.prog 26 = some ([(0, 1), (1, 1)], [.slice none 0 0, .slice none 0 0]) := by kernel_rfl
theorem bk44 : bldK Tryz.prog 44 = some ([(0, 1), (1, 1), (2, 1), (3, 1)], [.int .i64 0, .int .u64 0, .slice none 0 0, .string ⟨#[]⟩]) := by kernel_rfl
theorem bk48 : bldK Tryz.prog 48 = some ([(0, 1), (1, 1), (2, 1)], [.string ⟨#[]⟩, .int .i64 0, .string ⟨#[]⟩]) := by kernel_rfl
theorem bk50 : bldK Tryz.prog 50 = some ([(0, 1), (1, 1)], [.int .i64 0, .string ⟨#[]⟩]) := by kernel_rfl
theorem bk54 : bldK Tryz.prog 54 = some ([(0, 1), (1, 1)], [.string ⟨#[]⟩, .string ⟨#[]⟩]) := by kernel_rfl
theorem bk57 : bldK Tryz.prog 57 = some ([(0, 1), (1, 1)], [.string ⟨#[]⟩, .bool false]) := by kernel_rfl
theorem bk71 : bldK Tryz.prog 71 = some ([(0, 1), (1, 1), (2, 1), (3, 1)], [.string ⟨#[]⟩, .string ⟨#[]⟩, .string ⟨#[]⟩, .string ⟨#[]⟩]) := by kernel_rfl
theorem bk78 : bldK Tryz.prog 78 = some ([(0, 2), (2, 1), (3, 1)], [.slice none 0 0, .slice none 0 0, .slice none 0 0, .slice none 0 0]) := by kernel_rfl
theorem cf100 : Callable Tryz.prog 100 := callable_of Tryz.func100 (by kernel_rfl) rfl
theorem cf101 : Callable Tryz.prog 101 := callable_of Tryz.func101 (by kernel_rfl) rfl
theorem cf102 : Callable Tryz.prog 102 := callable_of Tryz.func102 (by kernel_rfl) rfl
theorem cf103 : Callable Tryz.prog 103 := callable_of Tryz.func103 (by kernel_rfl) rfl
theorem cf104 : Callable Tryz.prog 104 := callable_of Tryz.func104 (by kernel_rfl) rfl
theorem cf109 : Callable Tryz.prog 109 := callable_of Tryz.func109 (by kernel_rfl) rfl
theorem cf11 : Callable Tryz.prog 11 := callable_of Tryz.func11 (by kernel_rfl) rfl
theorem cf112 : Callable Tryz.prog 112 := callable_of Tryz.func112 (by kernel_rfl) rfl
theorem cf119 : Callable Tryz.prog 119 := callable_of Tryz.func119 (by kernel_rfl) rfl
theorem cf120 : Callable Tryz.prog 120 := callable_of Tryz.func120 (by kernel_rfl) rfl
theorem cf121 : Callable Tryz.prog 121 := callable_of Tryz.func121 (by kernel_rfl) rfl
theorem cf122 : Callable Tryz.prog 122 := callable_of Tryz.func122 (by kernel_rfl) rfl
theorem cf123 : Callable Tryz.prog 123 := callable_of Tryz.func123 (by kernel_rfl) rfl
theorem cf125 : Callable Tryz.prog 125 := callable_of Tryz.func125 (by kernel_rfl) rfl
theorem cf126 : Callable Tryz.prog 126 := callable_of Tryz.func126 (by kernel_rfl) rfl
theorem cf127 : Callable Tryz.prog 127 := callable_of Tryz.func127 (by kernel_rfl) rfl
theorem cf128 : Callable Tryz.prog 128 := callable_of Tryz.func128 (by kernel_rfl) rfl
theorem cf129 : Callable Tryz.prog 129 := callable_of Tryz.func129 (by kernel_rfl) rfl
theorem cf13 : Callable Tryz.prog 13 := callable_of Tryz.func13 (by kernel_rfl) rfl
theorem cf133 : Callable Tryz.prog 133 := callable_of Tryz.func133 (by kernel_rfl) rfl
theorem cf139 : Callable Tryz.prog 139 := callable_of Tryz.func139 (by kernel_rfl) rfl
theorem cf14 : Callable Tryz.prog 14 := callable_of Tryz.func14 (by kernel_rfl) rfl
theorem cf148 : Callable Tryz.prog 148 := callable_of Tryz.func148 (by kernel_rfl) rfl
theorem cf149 : Callable Tryz.prog 149 := callable_of Tryz.func149 (by kernel_rfl) rfl
theorem cf15 : Callable Tryz.prog 15 := callable_of Tryz.func15 (by kernel_rfl) rfl
theorem cf150 : Callable Tryz.prog 150 := callable_of Tryz.func150 (by kernel_rfl) rfl
theorem cf151 : Callable Tryz.prog 151 := callable_of Tryz.func151 (by kernel_rfl) rfl
theorem cf156 : Callable Tryz.prog 156 := callable_of Tryz.func156 (by kernel_rfl) rfl
theorem cf157 : Callable Tryz.prog 157 := callable_of Tryz.func157 (by kernel_rfl) rfl
theorem cf166 : Callable Tryz.prog 166 := callable_of Tryz.func166 (by kernel_rfl) rfl
theorem cf167 : Callable Tryz.prog 167 := callable_of Tryz.func167 (by kernel_rfl) rfl
theorem cf168 : Callable Tryz.prog 168 := callable_of Tryz.func168 (by kernel_rfl) rfl
theorem cf169 : Callable Tryz.prog 169 := callable_of Tryz.func169 (by kernel_rfl) rfl
theorem cf17 : Callable Tryz.prog 17 := callable_of Tryz.func17 (by kernel_rfl) rfl
theorem cf183 : Callable Tryz.prog 183 := callable_of Tryz.func183 (by kernel_rfl) rfl
theorem cf184 : Callable Tryz.prog 184 := callable_of Tryz.func184 (by kernel_rfl) rfl
theorem cf185 : Callable Tryz.prog 185 := callable_of Tryz.func185 (by kernel_rfl) rfl
theorem cf19 : Callable Tryz.prog 19 := callable_of Tryz.func19 (by kernel_rfl) rfl
theorem cf190 : Callable Tryz.prog 190 := callable_of Tryz.func190 (by kernel_rfl) rfl
theorem cf191 : Callable Tryz.prog 191 := callable_of Tryz.func191 (by kernel_rfl) rfl
theorem cf20 : Callable Tryz.prog 20 := callable_of Tryz.func20 (by kernel_rfl) rfl
theorem cf29 : Callable Tryz.prog 29 := callable_of Tryz.func29 (by kernel_rfl) rfl
theorem cf30 : Callable Tryz.prog 30 := callable_of Tryz.func30 (by kernel_rfl) rfl
theorem cf31 : Callable Tryz.prog 31 := callable_of Tryz.func31 (by kernel_rfl) rfl
theorem cf32 : Callable Tryz.prog 32 := callable_of Tryz.func32 (by kernel_rfl) rfl
theorem cf33 : Callable Tryz.prog 33 := callable_of Tryz.func33 (by kernel_rfl) rfl
theorem cf34 : Callable Tryz.prog 34 := callable_of Tryz.func34 (by kernel_rfl) rfl
theorem cf35 : Callable Tryz.prog 35 := callable_of Tryz.func35 (by kernel_rfl) rfl
theorem cf36 : Callable Tryz.prog 36 := callable_of Tryz.func36 (by kernel_rfl) rfl
theorem cf37 : Callable Tryz.prog 37 := callable_of Tryz.func37 (by kernel_rfl) rfl
theorem cf39 : Callable Tryz.prog 39 := callable_of Tryz.func39 (by kernel_rfl) rfl
theorem cf40 : Callable Tryz.prog 40 := callable_of Tryz.func40 (by kernel_rfl) rfl
theorem cf41 : Callable Tryz.prog 41 := callable_of Tryz.func41 (by kernel_rfl) rfl
theorem cf42 : Callable Tryz.prog 42 := callable_of Tryz.func42 (by kernel_rfl) rfl
theorem cf43 : Callable Tryz.prog 43 := callable_of Tryz.func43 (by kernel_rfl) rfl
theorem cf48 : Callable Tryz.prog 48 := callable_of Tryz.func48 (by kernel_rfl) rfl
theorem cf49 : Callable Tryz.prog 49 := callable_of Tryz.func49 (by kernel_rfl) rfl
theorem cf50 : Callable Tryz.prog 50 := callable_of Tryz.func50 (by kernel_rfl) rfl
theorem cf51 : Callable Tryz.prog 51 := callable_of Tryz.func51 (by kernel_rfl) rfl
theorem cf52 : Callable Tryz.prog 52 := callable_of Tryz.func52 (by kernel_rfl) rfl
theorem cf53 : Callable Tryz.prog 53 := callable_of Tryz.func53 (by kernel_rfl) rfl
theorem cf54 : Callable Tryz.prog 54 := callable_of Tryz.func54 (by kernel_rfl) rfl
theorem cf59 : Callable Tryz.prog 59 := callable_of Tryz.func59 (by kernel_rfl) rfl
theorem cf63 : Callable Tryz.prog 63 := callable_of Tryz.func63 (by kernel_rfl) rfl
theorem cf64 : Callable Tryz.prog 64 := callable_of Tryz.func64 (by kernel_rfl) rfl
theorem cf65 : Callable Tryz.prog 65 := callable_of Tryz.func65 (by kernel_rfl) rfl
theorem cf66 : Callable Tryz.prog 66 := callable_of Tryz.func66 (by kernel_rfl) rfl
theorem cf67 : Callable Tryz.prog 67 := callable_of Tryz.func67 (by kernel_rfl) rfl
theorem cf68 : Callable Tryz.prog 68 := callable_of Tryz.func68 (by kernel_rfl) rfl
theorem cf69 : Callable Tryz.prog 69 := callable_of Tryz.func69 (by kernel_rfl) rfl
theorem cf70 : Callable Tryz.prog 70 := callable_of Tryz.func70 (by kernel_rfl) rfl
theorem cf71 : Callable Tryz.prog 71 := callable_of Tryz.func71 (by kernel_rfl) rfl
theorem cf72 : Callable Tryz.prog 72 := callable_of Tryz.func72 (by kernel_rfl) rfl
theorem cf75 : Callable Tryz.prog 75 := callable_of Tryz.func75 (by kernel_rfl) rfl
theorem cf76 : Callable Tryz.prog 76 := callable_of Tryz.func76 (by kernel_rfl) rfl
theorem cf77 : Callable Tryz.prog 77 := callable_of Tryz.func77 (by kernel_rfl) rfl
theorem cf78 : Callable Tryz.prog 78 := callable_of Tryz.func78 (by kernel_rfl) rfl
theorem cf79 : Callable Tryz.prog 79 := callable_of Tryz.func79 (by kernel_rfl) rfl
theorem cf8 : Callable Tryz.prog 8 := callable_of Tryz.func8 (by kernel_rfl) rfl
theorem cf9 : Callable Tryz.prog 9 := callable_of Tryz.func9 (by kernel_rfl) rfl
theorem cf91 : Callable Tryz.prog 91 := callable_of Tryz.func91 (by kernel_rfl) rfl
theorem cf92 : Callable Tryz.prog 92 := callable_of Tryz.func92 (by kernel_rfl) rfl
theorem cf93 : Callable Tryz.prog 93 := callable_of Tryz.func93 (by kernel_rfl) rfl
theorem cf94 : Callable Tryz.prog 94 := callable_of Tryz.func94 (by kernel_rfl) rfl
theorem cf95 : Callable Tryz.prog 95 := callable_of Tryz.func95 (by kernel_rfl) rfl
theorem cf98 : Callable Tryz.prog 98 := callable_of Tryz.func98 (by kernel_rfl) rfl
theorem cf99 : Callable Tryz.prog 99 := callable_of Tryz.func99 (by kernel_rfl) rfl
theorem ek130 : eszK Tryz.prog 130 = some 1 := by kernel_rfl
theorem ek152 : eszK Tryz.prog 152 = some 4 := by kernel_rfl
theorem ek221 : eszK Tryz.prog 221 = some 2 := by kernel_rfl
theorem ek23 : eszK Tryz.prog 23 = some 3 := by kernel_rfl
theorem ek24 : eszK Tryz.prog 24 = some 2 := by kernel_rfl
theorem ek42 : eszK Tryz.prog 42 = some 2 := by kernel_rfl
theorem ek59 : eszK Tryz.prog 59 = some 1 := by kernel_rfl
theorem ek62 : eszK Tryz.prog 62 = some 1 := by kernel_rfl
theorem ek67 : eszK Tryz.prog 67 = some 1 := by kernel_rfl
theorem ek68 : eszK Tryz.prog 68 = some 5 := by kernel_rfl
theorem ek76 : eszK Tryz.prog 76 = some 1 := by kernel_rfl
theorem fk114_0 : fldK Tryz.prog 114 0 = some (0, false, 1) := by kernel_rfl
theorem fk119_0 : fldK Tryz.prog 119 0 = some (0, false, 1) := by kernel_rfl
theorem fk119_1 : fldK Tryz.prog 119 1 = some (1, false, 1) := by kernel_rfl
theorem fk119_2 : fldK Tryz.prog 119 2 = some (2, false, 1) := by kernel_rfl
theorem fk119_3 : fldK Tryz.prog 119 3 = some (3, false, 1) := by kernel_rfl
theorem fk121_0 : fldK Tryz.prog 121 0 = some (0, false, 1) := by kernel_rfl
theorem fk126_0 : fldK Tryz.prog 126 0 = some (0, false, 1) := by kernel_rfl
theorem fk126_1 : fldK Tryz.prog 126 1 = some (1, false, 1) := by kernel_rfl
theorem fk149_0 : fldK Tryz.prog 149 0 = some (0, false, 1) := by kernel_rfl
theorem fk149_1 : fldK Tryz.prog 149 1 = some (1, false, 1) := by kernel_rfl
theorem fk149_2 : fldK Tryz.prog 149 2 = some (2, false, 1) := by kernel_rfl
theorem fk149_3 : fldK Tryz.prog 149 3 = some (3, false, 1) := by kernel_rfl
theorem fk149_4 : fldK Tryz.prog 149 4 = some (4, false, 1) := by kernel_rfl
theorem fk154_0 : fldK Tryz.prog 154 0 = some (0, false, 1) := by kernel_rfl
theorem fk154_1 : fldK Tryz.prog 154 1 = some (1, false, 1) := by kernel_rfl
theorem fk157_0 : fldK Tryz.prog 157 0 = some (0, false, 1) := by kernel_rfl
theorem fk157_1 : fldK Tryz.prog 157 1 = some (1, false, 1) := by kernel_rfl
theorem fk157_2 : fldK Tryz.prog 157 2 = some (2, false, 1) := by kernel_rfl
theorem fk157_3 : fldK Tryz.prog 157 3 = some (3, false, 1) := by kernel_rfl
theorem fk26_0 : fldK Tryz.prog 26 0 = some (0, false, 1) := by kernel_rfl
theorem fk26_1 : fldK Tryz.prog 26 1 = some (1, false, 1) := by kernel_rfl
theorem fk44_2 : fldK Tryz.prog 44 2 = some (2, false, 1) := by kernel_rfl
theorem fk44_3 : fldK Tryz.prog 44 3 = some (3, false, 1) := by kernel_rfl
theorem fk48_0 : fldK Tryz.prog 48 0 = some (0, false, 1) := by kernel_rfl
theorem fk48_1 : fldK Tryz.prog 48 1 = some (1, false, 1) := by kernel_rfl
theorem fk48_2 : fldK Tryz.prog 48 2 = some (2, false, 1) := by kernel_rfl
theorem fk50_0 : fldK Tryz.prog 50 0 = some (0, false, 1) := by kernel_rfl
theorem fk50_1 : fldK Tryz.prog 50 1 = some (1, false, 1) := by kernel_rfl
theorem fk54_0 : fldK Tryz.prog 54 0 = some (0, false, 1) := by kernel_rfl
theorem fk54_1 : fldK Tryz.prog 54 1 = some (1, false, 1) := by kernel_rfl
theorem fk57_0 : fldK Tryz.prog 57 0 = some (0, false, 1) := by kernel_rfl
theorem fk57_1 : fldK Tryz.prog 57 1 = some (1, false, 1) := by kernel_rfl
theorem fk78_0 : fldK Tryz.prog 78 0 = some (0, true, 2) := by kernel_rfl
theorem fk78_1 : fldK Tryz.prog 78 1 = some (2, false, 1) := by kernel_rfl
theorem fk78_2 : fldK Tryz.prog 78 2 = some (3, false, 1) := by kernel_rfl
theorem hu21 : hasU Tryz.prog 21 = true := by kernel_rfl
theorem hu3 : hasU Tryz.prog 3 = true := by kernel_rfl
theorem hu41 : hasU Tryz.prog 41 = true := by kernel_rfl
theorem hu5 : hasU Tryz.prog 5 = true := by kernel_rfl
theorem ib4 : isBool Tryz.prog 4 = true := by kernel_rfl
theorem ic121 : isConcrete Tryz.prog 121 = true := by kernel_rfl
theorem ik137 : intK Tryz.prog 137 = some .u64 := by kernel_rfl
theorem ik21 : intK Tryz.prog 21 = some .i32 := by kernel_rfl
theorem ik3 : intK Tryz.prog 3 = some .i64 := by kernel_rfl
theorem ik5 : intK Tryz.prog 5 = some .u8 := by kernel_rfl
theorem ipt36 : isPtr Tryz.prog 36 = true := by kernel_rfl
theorem ipt80 : isPtr Tryz.prog 80 = true := by kernel_rfl
theorem ir59 : isRunes Tryz.prog 59 = some 21 := by kernel_rfl
theorem isb103 : isBytes Tryz.prog 103 = true := by kernel_rfl
theorem isl152 : isSl Tryz.prog 152 = true := by kernel_rfl
theorem isl221 : isSl Tryz.prog 221 = true := by kernel_rfl
theorem isl23 : isSl Tryz.prog 23 = true := by kernel_rfl
theorem isl24 : isSl Tryz.prog 24 = true := by kernel_rfl
theorem isl42 : isSl Tryz.prog 42 = true := by kernel_rfl
theorem isl59 : isSl Tryz.prog 59 = true := by kernel_rfl
theorem isl62 : isSl Tryz.prog 62 = true := by kernel_rfl
theorem isl67 : isSl Tryz.prog 67 = true := by kernel_rfl
theorem isl68 : isSl Tryz.prog 68 = true := by kernel_rfl
theorem ist9 : isStr Tryz.prog 9 = true := by kernel_rfl
theorem sk103 : slcK Tryz.prog 103 = some (5, 1, 1, [.int .u8 0]) := by kernel_rfl
theorem sk130 : slcK Tryz.prog 130 = some (4, 1, 1, [.bool false]) := by kernel_rfl
theorem sk152 : slcK Tryz.prog 152 = some (157, 4, 48, [.int .i64 0, .int .i64 0, .int .i64 0, .slice none 0 0]) := by kernel_rfl
theorem sk221 : slcK Tryz.prog 221 = some (222, 2, 8, [.int .i32 0, .int .i32 0]) := by kernel_rfl
theorem sk23 : slcK Tryz.prog 23 = some (48, 3, 40, [.string ⟨#[]⟩, .int .i64 0, .string ⟨#[]⟩]) := by kernel_rfl
theorem sk24 : slcK Tryz.prog 24 = some (50, 2, 24, [.int .i64 0, .string ⟨#[]⟩]) := by kernel_rfl
theorem sk42 : slcK Tryz.prog 42 = some (54, 2, 32, [.string ⟨#[]⟩, .string ⟨#[]⟩]) := by kernel_rfl
theorem sk59 : slcK Tryz.prog 59 = some (21, 1, 4, [.int .i32 0]) := by kernel_rfl
theorem sk62 : slcK Tryz.prog 62 = some (9, 1, 16, [.string ⟨#[]⟩]) := by kernel_rfl
theorem sk67 : slcK Tryz.prog 67 = some (3, 1, 8, [.int .i64 0]) := by kernel_rfl
theorem sk68 : slcK Tryz.prog 68 = some (149, 5, 72, [.int .i64 0, .slice none 0 0, .int .i64 0, .int .i64 0, .slice none 0 0]) := by kernel_rfl
theorem sk76 : slcK Tryz.prog 76 = some (80, 1, 8, [.pointer none]) := by kernel_rfl
theorem tk1 : tyK Tryz.prog 1 = some (false, 1) := by kernel_rfl
theorem tk111 : tyK Tryz.prog 111 = some (false, 1) := by kernel_rfl
theorem tk121 : tyK Tryz.prog 121 = some (true, 1) := by kernel_rfl
theorem tk126 : tyK Tryz.prog 126 = some (true, 2) := by kernel_rfl
theorem tk149 : tyK Tryz.prog 149 = some (true, 5) := by kernel_rfl
theorem tk152 : tyK Tryz.prog 152 = some (false, 1) := by kernel_rfl
theorem tk157 : tyK Tryz.prog 157 = some (true, 4) := by kernel_rfl
theorem tk2 : tyK Tryz.prog 2 = some (false, 1) := by kernel_rfl
theorem tk21 : tyK Tryz.prog 21 = some (false, 1) := by kernel_rfl
theorem tk222 : tyK Tryz.prog 222 = some (true, 2) := by kernel_rfl
theorem tk23 : tyK Tryz.prog 23 = some (false, 1) := by kernel_rfl
theorem tk24 : tyK Tryz.prog 24 = some (false, 1) := by kernel_rfl
theorem tk26 : tyK Tryz.prog 26 = some (true, 2) := by kernel_rfl
theorem tk27 : tyK Tryz.prog 27 = some (false, 1) := by kernel_rfl
theorem tk3 : tyK Tryz.prog 3 = some (false, 1) := by kernel_rfl
theorem tk4 : tyK Tryz.prog 4 = some (false, 1) := by kernel_rfl
theorem tk42 : tyK Tryz.prog 42 = some (false, 1) := by kernel_rfl
theorem tk48 : tyK Tryz.prog 48 = some (true, 3) := by kernel_rfl
theorem tk50 : tyK Tryz.prog 50 = some (true, 2) := by kernel_rfl
theorem tk54 : tyK Tryz.prog 54 = some (true, 2) := by kernel_rfl
theorem tk59 : tyK Tryz.prog 59 = some (false, 1) := by kernel_rfl
theorem tk67 : tyK Tryz.prog 67 = some (false, 1) := by kernel_rfl
theorem tk68 : tyK Tryz.prog 68 = some (false, 1) := by kernel_rfl
theorem tk76 : tyK Tryz.prog 76 = some (false, 1) := by kernel_rfl
theorem tk80 : tyK Tryz.prog 80 = some (false, 1) := by kernel_rfl
theorem tk9 : tyK Tryz.prog 9 = some (false, 1) := by kernel_rfl
theorem zk121 : zeroK Tryz.prog 121 = some [.int .i64 0] := by kernel_rfl
theorem zk126 : zeroK Tryz.prog 126 = some [.slice none 0 0, .bool false] := by kernel_rfl
theorem zk149 : zeroK Tryz.prog 149 = some [.int .i64 0, .slice none 0 0, .int .i64 0, .int .i64 0, .slice none 0 0] := by kernel_rfl
theorem zk157 : zeroK Tryz.prog 157 = some [.int .i64 0, .int .i64 0, .int .i64 0, .slice none 0 0] := by kernel_rfl
theorem zk222 : zeroK Tryz.prog 222 = some [.int .i32 0, .int .i32 0] := by kernel_rfl
theorem zk26 : zeroK Tryz.prog 26 = some [.slice none 0 0, .slice none 0 0] := by kernel_rfl
theorem zk27 : zeroK Tryz.prog 27 = some [.int .i64 0] := by kernel_rfl
theorem zk48 : zeroK Tryz.prog 48 = some [.string ⟨#[]⟩, .int .i64 0, .string ⟨#[]⟩] := by kernel_rfl
theorem zk50 : zeroK Tryz.prog 50 = some [.int .i64 0, .string ⟨#[]⟩] := by kernel_rfl
theorem zk54 : zeroK Tryz.prog 54 = some [.string ⟨#[]⟩, .string ⟨#[]⟩] := by kernel_rfl
theorem zk68 : zeroK Tryz.prog 68 = some [.slice none 0 0] := by kernel_rfl
end Go.Proofs.YtnahdpjbddfhgaaGreatDoor
set_option linter.unusedVariables false
set_option linter.unusedSimpArgs false
namespace Go.Proofs.YtnahdpjbddfhgaaGreatDoor
open Go Go.AL
set_option maxRecDepth 100000
/-- does a text begin with another -/
def hasPre (s p : List UInt8) : Bool := decide (p.length ≤ s.length ∧ s.take p.length = p)
theorem hasPre_len {s p : List UInt8} (h : hasPre s p = true) : p.length ≤ s.length := by simp [hasPre] at h; exact h.1
abbrev u8 (c : UInt8) : AV := .v (.int .u8 (c.toNat : Int))
abbrev i32 (c : Int) : AV := .v (.int .i32 c)
def trimL (c : UInt8) (s : List UInt8) : List UInt8 := s.dropWhile (fun x => decide (x = c))
def trimR (c : UInt8) (s : List UInt8) : List UInt8 := (s.reverse.dropWhile (fun x => decide (x = c))).reverse
theorem u8_eq (x c : UInt8) : ((x.toNat : Int) = (c.toNat : Int)) ↔ x = c := by
  constructor
  · intro h; exact UInt8.toNat_inj.1 (by exact_mod_cast h)
  · intro h; rw [h]
theorem trimL_cons_eq {c : UInt8} {r : List UInt8} : trimL c (c :: r) = trimL c r := by simp [trimL]
theorem trimL_cons_ne {x c : UInt8} {r : List UInt8} (h : ¬ x = c) : trimL c (x :: r) = x :: r := by simp [trimL, h]
theorem trimR_snoc_eq {c : UInt8} {r : List UInt8} : trimR c (r ++ [c]) = trimR c r := by simp [trimR]
theorem trimR_snoc_ne {x c : UInt8} {r : List UInt8} (h : ¬ x = c) : trimR c (r ++ [x]) = r ++ [x] := by simp [trimR, h]
theorem snoc_of_pos {s : List UInt8} (h : 0 < s.length) : ∃ r x, s = r ++ [x] := by
  have hne : s ≠ [] := by intro e; subst e; simp at h
  exact ⟨s.dropLast, s.getLast hne, (List.dropLast_concat_getLast hne).symm⟩
/-- a scanner's memory -/
def scn (s : List UInt8) (bad : Bool) : AObj := .cells 0 57 [str s, boo bad]
def nxt (s sign : List UInt8) : List UInt8 := if hasPre (trimL 32 s) sign = true then (trimL 32 s).drop sign.length else trimL 32 s

theorem hasPre_spec (s p : List UInt8) (σ : AHeap)  : ASpec Tryz.prog 77 [str s, str p] σ fun r σ' => r = .ret (boo (hasPre s p)) ∧ σ' = σ := by
  refine aspec_enter (N := 18) (rs := [.tmp 4]) Tryz.func77 rfl rfl rfl rfl rfl rfl ?_
  refine awp_seq ?_
  refine awp_region ?_
  refine aops_v rfl rfl rfl (a_assign rfl rfl ?_)
  refine aops_nil ?_
  refine thenE_n ?_
  refine awp_seq ?_
  refine awp_region ?_
  refine aops_v rfl rfl rfl (a_move rfl rfl ?_)
  refine aops_v rfl rfl rfl (a_len_str rfl ist9 rfl ?_)
  refine aops_v rfl rfl rfl (a_move rfl rfl ?_)
  refine aops_v rfl rfl rfl (a_len_str rfl ist9 rfl ?_)
  refine aops_v rfl rfl rfl (a_int rfl rfl rfl rfl ?_)
  refine aops_v rfl rfl rfl (a_move rfl rfl ?_)
  refine aops_bool (fun h1 => ?_) (fun h1 => ?_)
  · try simp only [zz1, zz2, ne_eq, zz4, zz5, zz6, gt_iff_lt, ge_iff_le, zz9, zz0] at h1
    refine aops_yes rfl rfl rfl rfl ?_
    refine aops_v rfl rfl rfl (a_move rfl rfl ?_)
    refine aops_yes rfl rfl rfl rfl ?_
    refine aops_v rfl rfl rfl (a_move rfl rfl ?_)
    refine aops_yes rfl rfl rfl rfl ?_
    refine aops_v rfl rfl rfl (a_len_str rfl ist9 rfl ?_)
    refine aops_yes rfl rfl rfl rfl ?_
    refine aops_v rfl rfl rfl (a_slice_take rfl ist9 rfl rfl NT (by omega) (by omega) ?_)
    refine aops_yes rfl rfl rfl rfl ?_
    refine aops_v rfl rfl rfl (a_move rfl rfl ?_)
    refine aops_yes rfl rfl rfl rfl ?_
    refine aops_v rfl rfl rfl (a_str rfl rfl rfl rfl ?_)
    refine aops_v rfl rfl rfl (a_pick rfl rfl rfl ?_)
    refine aops_v rfl rfl rfl (a_assign rfl rfl ?_)
    refine aops_nil ?_
    refine thenE_n ?_
    refine awp_ret ?_
    change Gst _ _ _ _
    refine fin1 rfl ?_
    refine ⟨?_, rfl⟩
    simp [hasPre, *] <;> try omega
  · try simp only [zz1, zz2, ne_eq, zz4, zz5, zz6, gt_iff_lt, ge_iff_le, zz9, zz0] at h1
    refine aops_no rfl rfl rfl rfl rfl rfl ?_
    refine aops_no rfl rfl rfl rfl rfl rfl ?_
    refine aops_no rfl rfl rfl rfl rfl rfl ?_
    refine aops_no rfl rfl rfl rfl rfl rfl ?_
    refine aops_no rfl rfl rfl rfl rfl rfl ?_
    refine aops_no rfl rfl rfl rfl rfl rfl ?_
    refine aops_v rfl rfl rfl (a_pick rfl rfl rfl ?_)
    refine aops_v rfl rfl rfl (a_assign rfl rfl ?_)
    refine aops_nil ?_
    refine thenE_n ?_
    refine awp_ret ?_
    change Gst _ _ _ _
    refine fin1 rfl ?_
    refine ⟨?_, rfl⟩
    simp [hasPre, *] <;> try omega

theorem cutPre9_spec (s p : List UInt8) (σ : AHeap)  : ASpec Tryz.prog 109 [str s, str p] σ fun r σ' => r = .ret (.tup [str (if hasPre s p = true then s.drop p.length else s), boo (hasPre s p)]) ∧ σ' = σ := by
  refine aspec_enter (N := 15) (rs := [.tmp 4, .tmp 5]) Tryz.func109 rfl rfl rfl rfl rfl rfl ?_
  refine awp_seq ?_
  refine awp_region ?_
  refine aops_v rfl rfl rfl (a_assign rfl rfl ?_)
  refine aops_v rfl rfl rfl (a_assign rfl rfl ?_)
  refine aops_nil ?_
  refine thenE_n ?_
  refine awp_seq ?_
  refine awp_seq ?_
  refine awp_region ?_
  refine aops_v rfl rfl rfl (a_move rfl rfl ?_)
  refine aops_v rfl rfl rfl (a_move rfl rfl ?_)
  refine aops_call_eq rfl rfl rfl rfl cf77 rfl (hasPre_spec _ _ _) ?_
  refine aops_v rfl rfl rfl (a_not rfl rfl ?_)
  refine aops_nil ?_
  refine thenE_n ?_
  refine awp_cond rfl (fun h1 => ?_) (fun h1 => ?_)
  · try simp only [zz1, zz2, ne_eq, zz4, zz5, zz6, gt_iff_lt, ge_iff_le, zz9, zz0] at h1
    refine awp_seq ?_
    refine awp_region ?_
    refine aops_v rfl rfl rfl (a_move rfl rfl ?_)
    refine aops_v rfl rfl rfl (a_assign rfl rfl ?_)
    refine aops_v rfl rfl rfl (a_assign rfl rfl ?_)
    refine aops_nil ?_
    refine thenE_n ?_
    refine awp_ret ?_
    change Gst _ _ _ _
    refine fin2 rfl ?_
    first | exact ⟨rfl, rfl⟩ | exact ⟨by simp [*], rfl⟩
  · try simp only [zz1, zz2, ne_eq, zz4, zz5, zz6, gt_iff_lt, ge_iff_le, zz9, zz0] at h1
    have hl := hasPre_len h1
    refine awp_skip ?_
    refine thenE_n ?_
    refine awp_seq ?_
    refine awp_region ?_
    refine aops_v rfl rfl rfl (a_move rfl rfl ?_)
    refine aops_v rfl rfl rfl (a_move rfl rfl ?_)
    refine aops_v rfl rfl rfl (a_len_str rfl ist9 rfl ?_)
    refine aops_v rfl rfl rfl (a_slice_drop rfl ist9 rfl rfl NT (by omega) (by omega) ?_)
    refine aops_v rfl rfl rfl (a_assign rfl rfl ?_)
    refine aops_v rfl rfl rfl (a_assign rfl rfl ?_)
    refine aops_nil ?_
    refine thenE_n ?_
    refine awp_ret ?_
    change Gst _ _ _ _
    refine fin2 rfl ?_
    first | exact ⟨rfl, rfl⟩ | exact ⟨by simp [*], rfl⟩

theorem cutPre_spec (s p : List UInt8) (σ : AHeap)  : ASpec Tryz.prog 76 [str s, str p] σ fun r σ' => r = .ret (.tup [str (if hasPre s p = true then s.drop p.length else s), boo (hasPre s p)]) ∧ σ' = σ := by
  refine aspec_enter (N := 11) (rs := [.tmp 4, .tmp 5]) Tryz.func76 rfl rfl rfl rfl rfl rfl ?_
  refine awp_seq ?_
  refine awp_region ?_
  refine aops_v rfl rfl rfl (a_assign rfl rfl ?_)
  refine aops_v rfl rfl rfl (a_assign rfl rfl ?_)
  refine aops_nil ?_
  refine thenE_n ?_
  refine awp_seq ?_
  refine awp_region ?_
  refine aops_v rfl rfl rfl (a_move rfl rfl ?_)
  refine aops_v rfl rfl rfl (a_move rfl rfl ?_)
  refine aops_call_eq rfl rfl rfl rfl cf109 rfl (cutPre9_spec _ _ _) ?_
  refine aops_v rfl rfl rfl (a_extract rfl rfl rfl ?_)
  refine aops_v rfl rfl rfl (a_extract rfl rfl rfl ?_)
  refine aops_v rfl rfl rfl (a_assign rfl rfl ?_)
  refine aops_v rfl rfl rfl (a_assign rfl rfl ?_)
  refine aops_nil ?_
  refine thenE_n ?_
  refine awp_ret ?_
  change Gst _ _ _ _
  refine fin2 rfl ?_
  first | exact ⟨rfl, rfl⟩ | exact ⟨by simp [*], rfl⟩

theorem hasPre52_spec (s p : List UInt8) (σ : AHeap)  : ASpec Tryz.prog 52 [str s, str p] σ fun r σ' => r = .ret (boo (hasPre s p)) ∧ σ' = σ := by
  refine aspec_enter (N := 8) (rs := [.tmp 4]) Tryz.func52 rfl rfl rfl rfl rfl rfl ?_
  refine awp_seq ?_
  refine awp_region ?_
  refine aops_v rfl rfl rfl (a_assign rfl rfl ?_)
  refine aops_nil ?_
  refine thenE_n ?_
  refine awp_seq ?_
  refine awp_region ?_
  refine aops_v rfl rfl rfl (a_move rfl rfl ?_)
  refine aops_v rfl rfl rfl (a_move rfl rfl ?_)
  refine aops_call_eq rfl rfl rfl rfl cf77 rfl (hasPre_spec _ _ _) ?_
  refine aops_v rfl rfl rfl (a_assign rfl rfl ?_)
  refine aops_nil ?_
  refine thenE_n ?_
  refine awp_ret ?_
  change Gst _ _ _ _
  refine fin1 rfl ?_
  first | exact ⟨rfl, rfl⟩ | exact ⟨by simp [*], rfl⟩

theorem trimLB_spec (s0 : List UInt8) (c : UInt8) (σ : AHeap)  : ASpec Tryz.prog 78 [str s0, u8 c] σ fun r σ' => r = .ret (str (trimL c s0)) ∧ σ' = σ := by
  refine aspec_enter (N := 17) (rs := [.tmp 4]) Tryz.func78 rfl rfl rfl rfl rfl rfl ?_
  refine awp_seq ?_
  refine awp_region ?_
  refine aops_v rfl rfl rfl (a_assign rfl rfl ?_)
  refine aops_nil ?_
  refine thenE_n ?_
  refine awp_seq ?_
  refine awp_block ?_
  refine awp_loop (S := List UInt8) (fun s => [(0, str s), (1, u8 c)]) (fun _ => σ) (fun s => trimL c s = trimL c s0) (fun s => s.length) ⟨s0, rfl, EL, rfl⟩ ?_
  rintro s hs
  refine awp_seq ?_
  refine awp_seq ?_
  refine awp_region ?_
  refine aops_v rfl rfl rfl (a_move rfl rfl ?_)
  refine aops_v rfl rfl rfl (a_len_str rfl ist9 rfl ?_)
  refine aops_v rfl rfl rfl (a_int rfl rfl rfl rfl ?_)
  refine aops_v rfl rfl rfl (a_move rfl rfl ?_)
  refine aops_bool (fun h1 => ?_) (fun h1 => ?_)
  · try simp only [zz1, zz2, ne_eq, zz4, zz5, zz6, gt_iff_lt, ge_iff_le, zz9, zz0] at h1
    obtain ⟨x, r, rfl⟩ : ∃ x r, s = x :: r := by cases s with | nil => simp at h1 | cons x r => exact ⟨x, r, rfl⟩
    refine aops_yes rfl rfl rfl rfl ?_
    refine aops_v rfl rfl rfl (a_move rfl rfl ?_)
    refine aops_yes rfl rfl rfl rfl ?_
    refine aops_v rfl rfl rfl (a_index_str rfl ist9 rfl rfl NT (by omega) (by first | assumption | rfl) ?_)
    refine aops_yes rfl rfl rfl rfl ?_
    refine aops_v rfl rfl rfl (a_move rfl rfl ?_)
    refine aops_yes rfl rfl rfl rfl ?_
    refine aops_v rfl rfl rfl (a_int rfl rfl rfl rfl ?_)
    refine aops_v rfl rfl rfl (a_pick rfl rfl rfl ?_)
    refine aops_nil ?_
    refine thenE_n ?_
    refine awp_cond rfl (fun h2 => ?_) (fun h2 => ?_)
    · try simp only [zz1, zz2, ne_eq, zz4, zz5, zz6, gt_iff_lt, ge_iff_le, zz9, zz0] at h2
      have hx := h2
      refine awp_skip ?_
      refine thenE_n ?_
      refine awp_block ?_
      refine awp_region ?_
      refine aops_v rfl rfl rfl (a_move rfl rfl ?_)
      have hlen : (x :: r).length = r.length + 1 := rfl
      refine aops_v rfl rfl rfl (a_slice_drop rfl ist9 rfl rfl NT (by omega) (by omega) ?_)
      refine aops_v rfl rfl rfl (a_assign rfl rfl ?_)
      refine aops_nil ?_
      refine blockE_n ?_
      refine thenE_n ?_
      refine .done ⟨r, by rw [← hs, (u8_eq x c).1 hx, trimL_cons_eq], by simp, EL, rfl⟩
    · try simp only [zz1, zz2, ne_eq, zz4, zz5, zz6, gt_iff_lt, ge_iff_le, zz9, zz0] at h2
      have hx := h2
      refine awp_exit ?_
      refine thenE_x ?_
      refine thenE_x ?_
      refine blockE_x ?_
      refine thenE_n ?_
      refine awp_seq ?_
      refine awp_region ?_
      refine aops_v rfl rfl rfl (a_move rfl rfl ?_)
      refine aops_v rfl rfl rfl (a_assign rfl rfl ?_)
      refine aops_nil ?_
      refine thenE_n ?_
      refine awp_ret ?_
      change Gst _ _ _ _
      refine fin1 rfl ?_
      exact ⟨by rw [← hs, trimL_cons_ne (fun e => hx ((u8_eq x c).2 e))], rfl⟩
  · try simp only [zz1, zz2, ne_eq, zz4, zz5, zz6, gt_iff_lt, ge_iff_le, zz9, zz0] at h1
    refine aops_no rfl rfl rfl rfl rfl rfl ?_
    refine aops_no rfl rfl rfl rfl rfl rfl ?_
    refine aops_no rfl rfl rfl rfl rfl rfl ?_
    refine aops_no rfl rfl rfl rfl rfl rfl ?_
    refine aops_v rfl rfl rfl (a_pick rfl rfl rfl ?_)
    refine aops_nil ?_
    refine thenE_n ?_
    refine awp_cond (b := false) rfl (fun h => Bool.noConfusion h) (fun _ => ?_)
    refine awp_exit ?_
    refine thenE_x ?_
    refine thenE_x ?_
    refine blockE_x ?_
    refine thenE_n ?_
    refine awp_seq ?_
    refine awp_region ?_
    refine aops_v rfl rfl rfl (a_move rfl rfl ?_)
    refine aops_v rfl rfl rfl (a_assign rfl rfl ?_)
    refine aops_nil ?_
    refine thenE_n ?_
    refine awp_ret ?_
    change Gst _ _ _ _
    obtain rfl : s = [] := List.eq_nil_of_length_eq_zero (by omega)
    refine fin1 rfl ?_
    exact ⟨by rw [← hs]; rfl, rfl⟩

theorem trimRB_spec (s0 : List UInt8) (c : UInt8) (hl : s0.length ≤ 9223372036854775807) (σ : AHeap)  : ASpec Tryz.prog 79 [str s0, u8 c] σ fun r σ' => r = .ret (str (trimR c s0)) ∧ σ' = σ := by
  refine aspec_enter (N := 23) (rs := [.tmp 4]) Tryz.func79 rfl rfl rfl rfl rfl rfl ?_
  refine awp_seq ?_
  refine awp_region ?_
  refine aops_v rfl rfl rfl (a_assign rfl rfl ?_)
  refine aops_nil ?_
  refine thenE_n ?_
  refine awp_seq ?_
  refine awp_block ?_
  refine awp_loop (S := List UInt8) (fun s => [(0, str s), (1, u8 c)]) (fun _ => σ) (fun s => trimR c s = trimR c s0 ∧ s.length ≤ s0.length) (fun s => s.length) ⟨s0, ⟨rfl, Nat.le_refl _⟩, EL, rfl⟩ ?_
  rintro s ⟨hs, hsl⟩
  refine awp_seq ?_
  refine awp_seq ?_
  refine awp_region ?_
  refine aops_v rfl rfl rfl (a_move rfl rfl ?_)
  refine aops_v rfl rfl rfl (a_len_str rfl ist9 rfl ?_)
  refine aops_v rfl rfl rfl (a_int rfl rfl rfl rfl ?_)
  refine aops_v rfl rfl rfl (a_move rfl rfl ?_)
  refine aops_bool (fun h1 => ?_) (fun h1 => ?_)
  · try simp only [zz1, zz2, ne_eq, zz4, zz5, zz6, gt_iff_lt, ge_iff_le, zz9, zz0] at h1
    obtain ⟨r, x, rfl⟩ : ∃ r x, s = r ++ [x] := snoc_of_pos (by omega)
    have hlen : (r ++ [x]).length = r.length + 1 := by simp
    refine aops_yes rfl rfl rfl rfl ?_
    refine aops_v rfl rfl rfl (a_move rfl rfl ?_)
    refine aops_yes rfl rfl rfl rfl ?_
    refine aops_v rfl rfl rfl (a_move rfl rfl ?_)
    refine aops_yes rfl rfl rfl rfl ?_
    refine aops_v rfl rfl rfl (a_len_str rfl ist9 rfl ?_)
    refine aops_yes rfl rfl rfl rfl ?_
    first | refine aops_v rfl rfl rfl (a_sub rfl rfl rfl (by simp only [Go.AL.lo, Go.AL.hi]; omega) ?_) | refine aops_v rfl rfl rfl (a_int rfl rfl rfl rfl ?_)
    refine aops_yes rfl rfl rfl rfl ?_
    have hget : (r ++ [x])[(r ++ [x]).length - 1]? = some x := by simp
    refine aops_v rfl rfl rfl (a_index_str rfl ist9 rfl rfl NT (by omega) (by first | assumption | rfl) ?_)
    refine aops_yes rfl rfl rfl rfl ?_
    refine aops_v rfl rfl rfl (a_move rfl rfl ?_)
    refine aops_yes rfl rfl rfl rfl ?_
    refine aops_v rfl rfl rfl (a_int rfl rfl rfl rfl ?_)
    refine aops_v rfl rfl rfl (a_pick rfl rfl rfl ?_)
    refine aops_nil ?_
    refine thenE_n ?_
    refine awp_cond rfl (fun h2 => ?_) (fun h2 => ?_)
    · try simp only [zz1, zz2, ne_eq, zz4, zz5, zz6, gt_iff_lt, ge_iff_le, zz9, zz0] at h2
      have hx := h2
      refine awp_skip ?_
      refine thenE_n ?_
      refine awp_block ?_
      refine awp_region ?_
      refine aops_v rfl rfl rfl (a_move rfl rfl ?_)
      refine aops_v rfl rfl rfl (a_move rfl rfl ?_)
      refine aops_v rfl rfl rfl (a_len_str rfl ist9 rfl ?_)
      first | refine aops_v rfl rfl rfl (a_sub rfl rfl rfl (by simp only [Go.AL.lo, Go.AL.hi]; omega) ?_) | refine aops_v rfl rfl rfl (a_int rfl rfl rfl rfl ?_)
      refine aops_v rfl rfl rfl (a_slice_take rfl ist9 rfl rfl NT (by omega) (by omega) ?_)
      rw [show (r ++ [x]).take ((r ++ [x]).length - 1) = r by simp]
      refine aops_v rfl rfl rfl (a_assign rfl rfl ?_)
      refine aops_nil ?_
      refine blockE_n ?_
      refine thenE_n ?_
      refine .done ⟨r, ⟨by rw [← hs, (u8_eq x c).1 hx, trimR_snoc_eq], by omega⟩, by omega, EL, rfl⟩
    · try simp only [zz1, zz2, ne_eq, zz4, zz5, zz6, gt_iff_lt, ge_iff_le, zz9, zz0] at h2
      have hx := h2
      refine awp_exit ?_
      refine thenE_x ?_
      refine thenE_x ?_
      refine blockE_x ?_
      refine thenE_n ?_
      refine awp_seq ?_
      refine awp_region ?_
      refine aops_v rfl rfl rfl (a_move rfl rfl ?_)
      refine aops_v rfl rfl rfl (a_assign rfl rfl ?_)
      refine aops_nil ?_
      refine thenE_n ?_
      refine awp_ret ?_
      change Gst _ _ _ _
      refine fin1 rfl ?_
      exact ⟨by rw [← hs, trimR_snoc_ne (fun e => hx ((u8_eq x c).2 e))], rfl⟩
  · try simp only [zz1, zz2, ne_eq, zz4, zz5, zz6, gt_iff_lt, ge_iff_le, zz9, zz0] at h1
    refine aops_no rfl rfl rfl rfl rfl rfl ?_
    refine aops_no rfl rfl rfl rfl rfl rfl ?_
    refine aops_no rfl rfl rfl rfl rfl rfl ?_
    refine aops_no rfl rfl rfl rfl rfl rfl ?_
    refine aops_no rfl rfl rfl rfl rfl rfl ?_
    refine aops_no rfl rfl rfl rfl rfl rfl ?_
    refine aops_no rfl rfl rfl rfl rfl rfl ?_
    refine aops_v rfl rfl rfl (a_pick rfl rfl rfl ?_)
    refine aops_nil ?_
    refine thenE_n ?_
    refine awp_cond (b := false) rfl (fun h => Bool.noConfusion h) (fun _ => ?_)
    refine awp_exit ?_
    refine thenE_x ?_
    refine thenE_x ?_
    refine blockE_x ?_
    refine thenE_n ?_
    refine awp_seq ?_
    refine awp_region ?_
    refine aops_v rfl rfl rfl (a_move rfl rfl ?_)
    refine aops_v rfl rfl rfl (a_assign rfl rfl ?_)
    refine aops_nil ?_
    refine thenE_n ?_
    refine awp_ret ?_
    change Gst _ _ _ _
    obtain rfl : s = [] := List.eq_nil_of_length_eq_zero (by omega)
    refine fin1 rfl ?_
    exact ⟨by rw [← hs]; rfl, rfl⟩

theorem trimL_spec (s : List UInt8) (σ : AHeap)  : ASpec Tryz.prog 75 [str s, str [32]] σ fun r σ' => r = .ret (str (trimL 32 s)) ∧ σ' = σ := by
  refine aspec_enter (N := 37) (rs := [.tmp 4]) Tryz.func75 rfl rfl rfl rfl rfl rfl ?_
  refine awp_seq ?_
  refine awp_region ?_
  refine aops_v rfl rfl rfl (a_assign rfl rfl ?_)
  refine aops_nil ?_
  refine thenE_n ?_
  refine awp_seq ?_
  refine awp_seq ?_
  refine awp_region ?_
  refine aops_v rfl rfl rfl (a_move rfl rfl ?_)
  refine aops_v rfl rfl rfl (a_str rfl rfl rfl rfl ?_)
  refine aops_v rfl rfl rfl (a_move rfl rfl ?_)
  refine aops_bool (fun h1 => ?_) (fun h1 => ?_)
  · try simp only [zz1, zz2, ne_eq, zz4, zz5, zz6, gt_iff_lt, ge_iff_le, zz9, zz0] at h1
    refine aops_no rfl rfl rfl rfl rfl rfl ?_
    refine aops_no rfl rfl rfl rfl rfl rfl ?_
    refine aops_v rfl rfl rfl (a_pick rfl rfl rfl ?_)
    refine aops_nil ?_
    refine thenE_n ?_
    refine awp_cond (b := true) rfl (fun _ => ?_) (fun h => Bool.noConfusion h)
    refine awp_seq ?_
    refine awp_region ?_
    refine aops_v rfl rfl rfl (a_move rfl rfl ?_)
    refine aops_v rfl rfl rfl (a_assign rfl rfl ?_)
    refine aops_nil ?_
    refine thenE_n ?_
    refine awp_ret ?_
    change Gst _ _ _ _
    subst h1
    refine fin1 rfl ?_
    exact ⟨rfl, rfl⟩
  · try simp only [zz1, zz2, ne_eq, zz4, zz5, zz6, gt_iff_lt, ge_iff_le, zz9, zz0] at h1
    refine aops_yes rfl rfl rfl rfl ?_
    refine aops_v rfl rfl rfl (a_move rfl rfl ?_)
    refine aops_yes rfl rfl rfl rfl ?_
    refine aops_v rfl rfl rfl (a_str rfl rfl rfl rfl ?_)
    refine aops_v rfl rfl rfl (a_pick rfl rfl rfl ?_)
    refine aops_nil ?_
    refine thenE_n ?_
    refine awp_cond rfl (fun h2 => ?_) (fun h2 => ?_)
    · try simp only [zz1, zz2, ne_eq, zz4, zz5, zz6, gt_iff_lt, ge_iff_le, zz9, zz0] at h2
      simp at h2
    · try simp only [zz1, zz2, ne_eq, zz4, zz5, zz6, gt_iff_lt, ge_iff_le, zz9, zz0] at h2
      refine awp_skip ?_
      refine thenE_n ?_
      refine awp_seq ?_
      refine awp_seq ?_
      refine awp_region ?_
      refine aops_v rfl rfl rfl (a_move rfl rfl ?_)
      refine aops_v rfl rfl rfl (a_len_str rfl ist9 rfl ?_)
      refine aops_v rfl rfl rfl (a_int rfl rfl rfl rfl ?_)
      refine aops_v rfl rfl rfl (a_move rfl rfl ?_)
      refine aops_bool (fun h3 => ?_) (fun h3 => ?_)
      · try simp only [zz1, zz2, ne_eq, zz4, zz5, zz6, gt_iff_lt, ge_iff_le, zz9, zz0] at h3
        refine aops_yes rfl rfl rfl rfl ?_
        refine aops_v rfl rfl rfl (a_move rfl rfl ?_)
        refine aops_yes rfl rfl rfl rfl ?_
        refine aops_v rfl rfl rfl (a_index_str rfl ist9 rfl rfl NT (by omega) (by first | assumption | rfl) ?_)
        refine aops_yes rfl rfl rfl rfl ?_
        refine aops_v rfl rfl rfl (a_int rfl rfl rfl rfl ?_)
        refine aops_v rfl rfl rfl (a_pick rfl rfl rfl ?_)
        refine aops_nil ?_
        refine thenE_n ?_
        refine awp_cond rfl (fun h4 => ?_) (fun h4 => ?_)
        · try simp only [zz1, zz2, ne_eq, zz4, zz5, zz6, gt_iff_lt, ge_iff_le, zz9, zz0] at h4
          refine awp_seq ?_
          refine awp_region ?_
          refine aops_v rfl rfl rfl (a_move rfl rfl ?_)
          refine aops_v rfl rfl rfl (a_move rfl rfl ?_)
          refine aops_v rfl rfl rfl (a_index_str rfl ist9 rfl rfl NT (by omega) (by first | assumption | rfl) ?_)
          refine aops_call_eq rfl rfl rfl rfl cf78 rfl (trimLB_spec _ 32 _) ?_
          refine aops_v rfl rfl rfl (a_assign rfl rfl ?_)
          refine aops_nil ?_
          refine thenE_n ?_
          refine awp_ret ?_
          change Gst _ _ _ _
          refine fin1 rfl ?_
          first | exact ⟨rfl, rfl⟩ | exact ⟨by simp [*], rfl⟩
        · try simp only [zz1, zz2, ne_eq, zz4, zz5, zz6, gt_iff_lt, ge_iff_le, zz9, zz0] at h4
          simp at h4
      · try simp only [zz1, zz2, ne_eq, zz4, zz5, zz6, gt_iff_lt, ge_iff_le, zz9, zz0] at h3
        simp at h3

theorem next_spec (p : Nat) (s sign : List UInt8) (bad : Bool) (σ : AHeap) (hp : σ p = some (scn s bad)) : ASpec Tryz.prog 49 [.ref p 0 0, str sign] σ fun r σ' => r = .ret (boo (hasPre (trimL 32 s) sign)) ∧ σ' = upd σ p (scn (nxt s sign) bad) := by
  unfold scn at hp
  refine aspec_enter (N := 30) (rs := [.tmp 4]) Tryz.func49 rfl rfl rfl rfl rfl rfl ?_
  refine awp_seq ?_
  refine awp_region ?_
  refine aops_v rfl rfl rfl (a_assign rfl rfl ?_)
  refine aops_nil ?_
  refine thenE_n ?_
  refine awp_seq ?_
  refine awp_region ?_
  refine aops_v rfl rfl rfl (a_move rfl rfl ?_)
  refine aops_v rfl rfl rfl (a_move rfl rfl ?_)
  first | refine aops_v rfl rfl rfl (a_nilCheck rfl rfl ?_) | refine aops_v rfl rfl rfl (a_nilCheck_pin rfl rfl ?_) | refine aops_v rfl rfl rfl (a_nilCheck_clo rfl rfl ?_)
  first | refine aops_v rfl rfl rfl (a_fieldAddr rfl fk57_0 rfl rfl ?_) | refine aops_v rfl rfl rfl (a_fieldAddr_pin rfl fk57_0 rfl rfl ?_)
  first | refine aops_v rfl rfl rfl (a_load_pin rfl tk9 rfl rfl ?_) | refine aops_v rfl rfl rfl (a_load rfl tk9 rfl HP rfl ?_)
  refine aops_call_eq rfl rfl rfl rfl cf75 rfl (trimL_spec _ _) ?_
  first | refine aops_v rfl rfl rfl (a_nilCheck rfl rfl ?_) | refine aops_v rfl rfl rfl (a_nilCheck_pin rfl rfl ?_) | refine aops_v rfl rfl rfl (a_nilCheck_clo rfl rfl ?_)
  first | refine aops_v rfl rfl rfl (a_fieldAddr rfl fk57_0 rfl rfl ?_) | refine aops_v rfl rfl rfl (a_fieldAddr_pin rfl fk57_0 rfl rfl ?_)
  first | refine aops_s rfl rfl (a_store_n (cs2 := [_, _]) rfl tk9 rfl rfl HP rfl rfl (by first | decide | (simp; done) | (simp; omega)) rfl ?_) | refine aops_s rfl rfl (a_store rfl tk9 rfl rfl HP rfl rfl (by first | decide | (simp [stv, AV.cells]; done) | (simp [stv, AV.cells]; omega)) ?_)
  refine aops_nil ?_
  refine thenE_n ?_
  refine awp_seq ?_
  refine awp_region ?_
  refine aops_v rfl rfl rfl (a_move rfl rfl ?_)
  first | refine aops_v rfl rfl rfl (a_nilCheck rfl rfl ?_) | refine aops_v rfl rfl rfl (a_nilCheck_pin rfl rfl ?_) | refine aops_v rfl rfl rfl (a_nilCheck_clo rfl rfl ?_)
  first | refine aops_v rfl rfl rfl (a_fieldAddr rfl fk57_0 rfl rfl ?_) | refine aops_v rfl rfl rfl (a_fieldAddr_pin rfl fk57_0 rfl rfl ?_)
  first | refine aops_v rfl rfl rfl (a_load_pin rfl tk9 rfl rfl ?_) | refine aops_v rfl rfl rfl (a_load rfl tk9 rfl HP rfl ?_)
  refine aops_v rfl rfl rfl (a_move rfl rfl ?_)
  refine aops_call_eq rfl rfl rfl rfl cf76 rfl (cutPre_spec _ _ _) ?_
  refine aops_v rfl rfl rfl (a_move rfl rfl ?_)
  refine aops_v rfl rfl rfl (a_extract rfl rfl rfl ?_)
  refine aops_v rfl rfl rfl (a_extract rfl rfl rfl ?_)
  refine aops_v rfl rfl rfl (a_assign rfl rfl ?_)
  refine aops_v rfl rfl rfl (a_assign rfl rfl ?_)
  refine aops_nil ?_
  refine thenE_n ?_
  refine awp_seq ?_
  refine awp_seq ?_
  refine awp_region ?_
  refine aops_v rfl rfl rfl (a_move rfl rfl ?_)
  refine aops_nil ?_
  refine thenE_n ?_
  refine awp_cond rfl (fun h1 => ?_) (fun h1 => ?_)
  · try simp only [zz1, zz2, ne_eq, zz4, zz5, zz6, gt_iff_lt, ge_iff_le, zz9, zz0] at h1
    refine awp_region ?_
    refine aops_v rfl rfl rfl (a_move rfl rfl ?_)
    refine aops_v rfl rfl rfl (a_move rfl rfl ?_)
    first | refine aops_v rfl rfl rfl (a_nilCheck rfl rfl ?_) | refine aops_v rfl rfl rfl (a_nilCheck_pin rfl rfl ?_) | refine aops_v rfl rfl rfl (a_nilCheck_clo rfl rfl ?_)
    first | refine aops_v rfl rfl rfl (a_fieldAddr rfl fk57_0 rfl rfl ?_) | refine aops_v rfl rfl rfl (a_fieldAddr_pin rfl fk57_0 rfl rfl ?_)
    first | refine aops_s rfl rfl (a_store_n (cs2 := [_, _]) rfl tk9 rfl rfl HP rfl rfl (by first | decide | (simp; done) | (simp; omega)) rfl ?_) | refine aops_s rfl rfl (a_store rfl tk9 rfl rfl HP rfl rfl (by first | decide | (simp [stv, AV.cells]; done) | (simp [stv, AV.cells]; omega)) ?_)
    refine aops_nil ?_
    refine thenE_n ?_
    refine awp_seq ?_
    refine awp_region ?_
    refine aops_v rfl rfl rfl (a_move rfl rfl ?_)
    refine aops_v rfl rfl rfl (a_assign rfl rfl ?_)
    refine aops_nil ?_
    refine thenE_n ?_
    refine awp_ret ?_
    change Gst _ _ _ _
    refine fin1 rfl ?_
    refine ⟨by simp [*], ?_⟩
    simp [upd_upd, stv, AV.cells, scn, nxt, *]
  · try simp only [zz1, zz2, ne_eq, zz4, zz5, zz6, gt_iff_lt, ge_iff_le, zz9, zz0] at h1
    refine awp_skip ?_
    refine thenE_n ?_
    refine awp_seq ?_
    refine awp_region ?_
    refine aops_v rfl rfl rfl (a_move rfl rfl ?_)
    refine aops_v rfl rfl rfl (a_assign rfl rfl ?_)
    refine aops_nil ?_
    refine thenE_n ?_
    refine awp_ret ?_
    change Gst _ _ _ _
    refine fin1 rfl ?_
    refine ⟨by simp [*], ?_⟩
    simp [upd_upd, stv, AV.cells, scn, nxt, *]

end Go.Proofs.YtnahdpjbddfhgaaGreatDoor
/-
  DERIVED: THE SHELF's CONTRACTS AT THIS DUMP, IN PLAIN WORDS (tools/lay-plain.mjs out of 'TryzShelfQ.lean', which tools/lay-shelf.mjs wrote): THE SAME DECLARATIONS UNDER THE SAME NAMES: 'import', 'namespace', 'open', 'def', 'theorem' AND NOTHING ELSE: no command of the shelf's: FOR A HAND-IN. Each laying: the table of numbers ('.._ren') and one theorem, a field a fact of the dump's own or the kernel's comparison; each contract: ONE APPLICATION.
-/
namespace Go.Proofs
open Go.Shelf
def Tryz.lays144_ren : Go.Shelf.Ren := ⟨fun | 144 => 72 | 143 => 105 | 219 => 130 | 217 => 152 | 225 => 153 | 224 => 154 | 267 => 155 | 266 => 178 | 314 => 179 | n => n, fun | 9 => 9 | 4 => 4 | 3 => 3 | 5 => 5 | 46 => 137 | 146 => 212 | 51 => 194 | n => n, fun | 1 => 2 | n => n⟩
theorem Tryz.lays144 : Go.Proofs.Lays.n144 Tryz.prog Tryz.lays144_ren := {
  mixed := by kernel_rfl
  f143 := Tryz.func105.trans (congrArg some (by kernel_rfl))
  f144 := Tryz.func72.trans (congrArg some (by kernel_rfl))
  f217 := Tryz.func152.trans (congrArg some (by kernel_rfl))
  f219 := Tryz.func130.trans (congrArg some (by kernel_rfl))
  f224 := Tryz.func154.trans (congrArg some (by kernel_rfl))
  f225 := Tryz.func153.trans (congrArg some (by kernel_rfl))
  f266 := Tryz.func178.trans (congrArg some (by kernel_rfl))
  f267 := Tryz.func155.trans (congrArg some (by kernel_rfl))
  f314 := Tryz.func179.trans (congrArg some (by kernel_rfl))
  t3 := Tryz.underlying3
  a3 := Tryz.isAgg3
  z3 := Tryz.sizeOf3
  v3 := Tryz.zeroValue3
  t4 := Tryz.underlying4
  a4 := Tryz.isAgg4
  z4 := Tryz.sizeOf4
  v4 := Tryz.zeroValue4
  t5 := Tryz.underlying5
  a5 := Tryz.isAgg5
  z5 := Tryz.sizeOf5
  v5 := Tryz.zeroValue5
  t9 := Tryz.underlying9
  a9 := Tryz.isAgg9
  z9 := Tryz.sizeOf9
  v9 := Tryz.zeroValue9
  t46 := Tryz.underlying137
  a46 := Tryz.isAgg137
  z46 := Tryz.sizeOf137
  v46 := Tryz.zeroValue137
  t51 := Tryz.underlying194
  a51 := Tryz.isAgg194
  z51 := Tryz.sizeOf194
  v51 := Tryz.zeroValue194
  t146 := Tryz.underlying212
  a146 := Tryz.isAgg212
  z146 := Tryz.sizeOf212
  v146 := Tryz.zeroValue212
  g1 := by kernel_rfl }
open Go.RowKit Go.Lib in
/-- strings.Contains: "Contains reports whether substr is within s.": IT RETURNS 'Lib.contains s substr'; the world is as it was. (LAID: no walk: one application.) -/
theorem Tryz.strings_Contains (s sub : ByteArray) (m : Int) (w : World) (hs : s.size < 4294967281) (hm : w.cell? ⟨2, 0, none⟩ = some (.int .i64 m)) :
    Calls Tryz.prog 72 #[.string s, .string sub] w fun e w' => e = .returned (.bool (Lib.contains s.data.toList sub.data.toList)) ∧ w' = w := Any.strings_Contains Tryz.lays144 s sub m w hs hm
def Tryz.lays155_ren : Go.Shelf.Ren := ⟨fun | 155 => 59 | 154 => 88 | 138 => 116 | 165 => 60 | 143 => 105 | 166 => 61 | 197 => 111 | 169 => 62 | 195 => 137 | 218 => 138 | 240 => 89 | 241 => 90 | 219 => 130 | 260 => 132 | 276 => 117 | 277 => 118 | 217 => 152 | 225 => 153 | 224 => 154 | 267 => 155 | 266 => 178 | 314 => 179 | n => n, fun | 9 => 9 | 3 => 3 | 4 => 4 | 72 => 105 | 0 => 0 | 76 => 109 | 105 => 92 | 21 => 21 | 5 => 5 | 70 => 102 | 20 => 20 | 37 => 103 | 75 => 108 | 127 => 151 | 164 => 172 | 46 => 137 | 119 => 133 | 139 => 136 | 138 => 135 | 146 => 212 | 51 => 194 | 80 => 89 | n => n, fun | 1 => 2 | 3 => 0 | 4 => 1 | n => n⟩
theorem Tryz.lays155 : Go.Proofs.Lays.n155 Tryz.prog Tryz.lays155_ren := {
  mixed := by kernel_rfl
  f138 := Tryz.func116.trans (congrArg some (by kernel_rfl))
  f143 := Tryz.func105.trans (congrArg some (by kernel_rfl))
  f154 := Tryz.func88.trans (congrArg some (by kernel_rfl))
  f155 := Tryz.func59.trans (congrArg some (by kernel_rfl))
  f165 := Tryz.func60.trans (congrArg some (by kernel_rfl))
  f166 := Tryz.func61.trans (congrArg some (by kernel_rfl))
  f169 := Tryz.func62.trans (congrArg some (by kernel_rfl))
  f195 := Tryz.func137.trans (congrArg some (by kernel_rfl))
  f197 := Tryz.func111.trans (congrArg some (by kernel_rfl))
  f217 := Tryz.func152.trans (congrArg some (by kernel_rfl))
  f218 := Tryz.func138.trans (congrArg some (by kernel_rfl))
  f219 := Tryz.func130.trans (congrArg some (by kernel_rfl))
  f224 := Tryz.func154.trans (congrArg some (by kernel_rfl))
  f225 := Tryz.func153.trans (congrArg some (by kernel_rfl))
  f240 := Tryz.func89.trans (congrArg some (by kernel_rfl))
  f241 := Tryz.func90.trans (congrArg some (by kernel_rfl))
  f260 := Tryz.func132.trans (congrArg some (by kernel_rfl))
  f266 := Tryz.func178.trans (congrArg some (by kernel_rfl))
  f267 := Tryz.func155.trans (congrArg some (by kernel_rfl))
  f276 := Tryz.func117.trans (congrArg some (by kernel_rfl))
  f277 := Tryz.func118.trans (congrArg some (by kernel_rfl))
  f314 := Tryz.func179.trans (congrArg some (by kernel_rfl))
  t0 := Tryz.underlying0
  a0 := Tryz.isAgg0
  z0 := Tryz.sizeOf0
  v0 := Tryz.zeroValue0
  t3 := Tryz.underlying3
  a3 := Tryz.isAgg3
  z3 := Tryz.sizeOf3
  v3 := Tryz.zeroValue3
  t4 := Tryz.underlying4
  a4 := Tryz.isAgg4
  z4 := Tryz.sizeOf4
  v4 := Tryz.zeroValue4
  t5 := Tryz.underlying5
  a5 := Tryz.isAgg5
  z5 := Tryz.sizeOf5
  v5 := Tryz.zeroValue5
  t9 := Tryz.underlying9
  a9 := Tryz.isAgg9
  z9 := Tryz.sizeOf9
  v9 := Tryz.zeroValue9
  t20 := Tryz.underlying20
  a20 := Tryz.isAgg20
  z20 := Tryz.sizeOf20
  v20 := Tryz.zeroValue20
  t21 := Tryz.underlying21
  a21 := Tryz.isAgg21
  z21 := Tryz.sizeOf21
  v21 := Tryz.zeroValue21
  t37 := Tryz.underlying103
  a37 := Tryz.isAgg103
  z37 := Tryz.sizeOf103
  v37 := Tryz.zeroValue103
  t46 := Tryz.underlying137
  a46 := Tryz.isAgg137
  z46 := Tryz.sizeOf137
  v46 := Tryz.zeroValue137
  t51 := Tryz.underlying194
  a51 := Tryz.isAgg194
  z51 := Tryz.sizeOf194
  v51 := Tryz.zeroValue194
  t70 := Tryz.underlying102
  a70 := Tryz.isAgg102
  z70 := Tryz.sizeOf102
  v70 := Tryz.zeroValue102
  t72 := Tryz.underlying105
  a72 := Tryz.isAgg105
  z72 := Tryz.sizeOf105
  v72 := Tryz.zeroValue105
  t75 := Tryz.underlying108
  a75 := Tryz.isAgg108
  z75 := Tryz.sizeOf108
  v75 := Tryz.zeroValue108
  t76 := Tryz.underlying109
  a76 := Tryz.isAgg109
  z76 := Tryz.sizeOf109
  v76 := Tryz.zeroValue109
  t105 := Tryz.underlying92
  a105 := Tryz.isAgg92
  z105 := Tryz.sizeOf92
  v105 := Tryz.zeroValue92
  t119 := Tryz.underlying133
  a119 := Tryz.isAgg133
  z119 := Tryz.sizeOf133
  t127 := Tryz.underlying151
  a127 := Tryz.isAgg151
  z127 := Tryz.sizeOf151
  v127 := Tryz.zeroValue151
  t138 := Tryz.underlying135
  a138 := Tryz.isAgg135
  z138 := Tryz.sizeOf135
  v138 := Tryz.zeroValue135
  t139 := Tryz.underlying136
  a139 := Tryz.isAgg136
  z139 := Tryz.sizeOf136
  v139 := Tryz.zeroValue136
  t146 := Tryz.underlying212
  a146 := Tryz.isAgg212
  z146 := Tryz.sizeOf212
  v146 := Tryz.zeroValue212
  t164 := Tryz.underlying172
  a164 := Tryz.isAgg172
  z164 := Tryz.sizeOf172
  v164 := Tryz.zeroValue172
  g1 := by kernel_rfl
  g3 := by kernel_rfl
  g4 := by kernel_rfl }
theorem Tryz.Builder_Extra_155 : Builder.Extra Tryz.prog Tryz.lays155_ren := {
  sizeBuilder := by kernel_rfl
  liesBuilder := by kernel_rfl
  t5 := Tryz.underlying5
  a5 := Tryz.isAgg5
  z5 := Tryz.sizeOf5
  v5 := Tryz.zeroValue5
  infoByte := by kernel_rfl
  cellsByte := by kernel_rfl
  sizeByte := by kernel_rfl
  neB5 := by decide }
open Go.RowKit Go.Lib in
/-- strings.ReplaceAll: "ReplaceAll returns a copy of the string s with all non-overlapping instances of old replaced by new.": AT AN old THAT IS NOT EMPTY: 'Lib.replaceAll s old new'. (LAID: no walk: one application.) -/
theorem Tryz.strings_ReplaceAll (s old new : ByteArray) (m : Int) (w : World) (hs : s.size < 4294967281) (hm : w.cell? ⟨2, 0, none⟩ = some (.int .i64 m)) (h1 : 1 ≤ old.size) (hlen : s.size + Lib.countB s old * new.size ≤ 140737488355328) :
    Calls Tryz.prog 59 #[.string s, .string old, .string new] w fun e w' =>
      e = .returned (.string ⟨(Lib.replaceAll s.data.toList old.data.toList new.data.toList).toArray⟩) ∧ Below w.heap.size w w' := Any.strings_ReplaceAll Tryz.lays155 Tryz.Builder_Extra_155 s old new m w hs hm h1 hlen
def Tryz.lays151_ren : Go.Shelf.Ren := ⟨fun | 151 => 112 | 152 => 133 | 137 => 156 | 119 => 157 | 224 => 154 | 225 => 153 | 217 => 152 | 266 => 178 | n => n, fun | 9 => 9 | 21 => 21 | 4 => 4 | 3 => 3 | 5 => 5 | 0 => 0 | 46 => 137 | n => n, fun | n => n⟩
theorem Tryz.lays151 : Go.Proofs.Lays.n151 Tryz.prog Tryz.lays151_ren := {
  mixed := by kernel_rfl
  f119 := Tryz.func157.trans (congrArg some (by kernel_rfl))
  f137 := Tryz.func156.trans (congrArg some (by kernel_rfl))
  f151 := Tryz.func112.trans (congrArg some (by kernel_rfl))
  f152 := Tryz.func133.trans (congrArg some (by kernel_rfl))
  f217 := Tryz.func152.trans (congrArg some (by kernel_rfl))
  f224 := Tryz.func154.trans (congrArg some (by kernel_rfl))
  f225 := Tryz.func153.trans (congrArg some (by kernel_rfl))
  f266 := Tryz.func178.trans (congrArg some (by kernel_rfl))
  t0 := Tryz.underlying0
  a0 := Tryz.isAgg0
  z0 := Tryz.sizeOf0
  v0 := Tryz.zeroValue0
  t3 := Tryz.underlying3
  a3 := Tryz.isAgg3
  z3 := Tryz.sizeOf3
  v3 := Tryz.zeroValue3
  t4 := Tryz.underlying4
  a4 := Tryz.isAgg4
  z4 := Tryz.sizeOf4
  v4 := Tryz.zeroValue4
  t5 := Tryz.underlying5
  a5 := Tryz.isAgg5
  z5 := Tryz.sizeOf5
  v5 := Tryz.zeroValue5
  t9 := Tryz.underlying9
  a9 := Tryz.isAgg9
  z9 := Tryz.sizeOf9
  v9 := Tryz.zeroValue9
  t21 := Tryz.underlying21
  a21 := Tryz.isAgg21
  z21 := Tryz.sizeOf21
  v21 := Tryz.zeroValue21
  t46 := Tryz.underlying137
  a46 := Tryz.isAgg137
  z46 := Tryz.sizeOf137
  v46 := Tryz.zeroValue137 }
open Go.RowKit Go.Lib in
theorem Tryz.strings_ContainsRune_ascii (s : ByteArray) (r : Int) (w : World) (h0 : 0 ≤ r) (h1 : r < 128) :
    Calls Tryz.prog 112 #[.string s, .int .i32 r] w fun e w' => e = .returned (.bool (decide (0 ≤ Lib.indexByte s.data.toList r.toNat.toUInt8))) ∧ w' = w := Any.strings_ContainsRune_ascii Tryz.lays151 s r w h0 h1
def Tryz.lays196_ren : Go.Shelf.Ren := ⟨fun | 196 => 48 | 259 => 74 | n => n, fun | 9 => 9 | 4 => 4 | 3 => 3 | 5 => 5 | 12 => 12 | 119 => 133 | 0 => 0 | 46 => 137 | 139 => 136 | 138 => 135 | 53 => 41 | n => n, fun | 3 => 0 | 4 => 1 | n => n⟩
theorem Tryz.lays196 : Go.Proofs.Lays.n196 Tryz.prog Tryz.lays196_ren := {
  mixed := by kernel_rfl
  f196 := Tryz.func48.trans (congrArg some (by kernel_rfl))
  f259 := Tryz.func74.trans (congrArg some (by kernel_rfl))
  t0 := Tryz.underlying0
  a0 := Tryz.isAgg0
  z0 := Tryz.sizeOf0
  v0 := Tryz.zeroValue0
  t3 := Tryz.underlying3
  a3 := Tryz.isAgg3
  z3 := Tryz.sizeOf3
  v3 := Tryz.zeroValue3
  t4 := Tryz.underlying4
  a4 := Tryz.isAgg4
  z4 := Tryz.sizeOf4
  v4 := Tryz.zeroValue4
  t5 := Tryz.underlying5
  a5 := Tryz.isAgg5
  z5 := Tryz.sizeOf5
  v5 := Tryz.zeroValue5
  t9 := Tryz.underlying9
  a9 := Tryz.isAgg9
  z9 := Tryz.sizeOf9
  v9 := Tryz.zeroValue9
  t12 := Tryz.underlying12
  a12 := Tryz.isAgg12
  z12 := Tryz.sizeOf12
  v12 := Tryz.zeroValue12
  t46 := Tryz.underlying137
  a46 := Tryz.isAgg137
  z46 := Tryz.sizeOf137
  v46 := Tryz.zeroValue137
  t53 := Tryz.underlying41
  a53 := Tryz.isAgg41
  z53 := Tryz.sizeOf41
  v53 := Tryz.zeroValue41
  t119 := Tryz.underlying133
  a119 := Tryz.isAgg133
  z119 := Tryz.sizeOf133
  t138 := Tryz.underlying135
  a138 := Tryz.isAgg135
  z138 := Tryz.sizeOf135
  v138 := Tryz.zeroValue135
  t139 := Tryz.underlying136
  a139 := Tryz.isAgg136
  z139 := Tryz.sizeOf136
  v139 := Tryz.zeroValue136
  g3 := by kernel_rfl
  g4 := by kernel_rfl }
open Go.RowKit Go.Lib in
theorem Tryz.utf8_ValidString (s : ByteArray) (w : World) (hs : s.size ≤ 9223372036854775807) (hT : Lib.Utf8Tabs 0 1 w) :
    Calls Tryz.prog 48 #[.string s] w fun e w' => e = .returned (.bool (Lib.validD s.data.toList)) ∧ Below w.heap.size w w' := Any.utf8_ValidString Tryz.lays196 s w hs hT
end Go.Proofs
set_option linter.unusedVariables false
set_option linter.unusedSimpArgs false
namespace Go.Proofs.YtnahdpjbddfhgaaGreatDoor
open Go Go.AL
set_option maxRecDepth 100000
open Go.RowKit
theorem contains_spec (s p : List UInt8) (hs : s.length < 4294967281) (σ : AHeap) : ASpec Tryz.prog 72 [str s, str p] σ fun r σ' => r = .ret (boo (Lib.contains s p)) ∧ σ' = σ := by
  refine aspec_below [.string ⟨s.toArray⟩, .string ⟨p.toArray⟩] fun w B hg _ => ?_
  obtain ⟨m, hm⟩ := hg.maxLen
  refine (Tryz.strings_Contains ⟨s.toArray⟩ ⟨p.toArray⟩ m w (by simpa [ByteArray.size] using hs) hm).mono fun e w' ⟨he, hw⟩ => ?_
  subst hw
  exact ⟨by simpa using he, Below.refl _ _⟩
theorem validString_spec (s : List UInt8) (hs : s.length ≤ 9223372036854775807) (σ : AHeap) : ASpec Tryz.prog 48 [str s] σ fun r σ' => r = .ret (boo (Lib.validD s)) ∧ σ' = σ := by
  refine aspec_below [.string ⟨s.toArray⟩] fun w B hg _ => ?_
  refine (Tryz.utf8_ValidString ⟨s.toArray⟩ w (by simpa [ByteArray.size] using hs) hg.tabs).mono fun e w' ⟨he, hb⟩ => ?_
  exact ⟨by simpa using he, hb⟩
theorem replaceAll_spec (s old new : List UInt8) (hs : s.length < 4294967281) (h1 : 1 ≤ old.length) (hl : s.length + Lib.countB ⟨s.toArray⟩ ⟨old.toArray⟩ * new.length ≤ 140737488355328) (σ : AHeap) :
    ASpec Tryz.prog 59 [str s, str old, str new] σ fun r σ' => r = .ret (str (Lib.replaceAll s old new)) ∧ σ' = σ := by
  refine aspec_below [.string ⟨s.toArray⟩, .string ⟨old.toArray⟩, .string ⟨new.toArray⟩] fun w B hg _ => ?_
  obtain ⟨m, hm⟩ := hg.maxLen
  refine (Tryz.strings_ReplaceAll ⟨s.toArray⟩ ⟨old.toArray⟩ ⟨new.toArray⟩ m w (by simpa [ByteArray.size] using hs) hm (by simpa [ByteArray.size] using h1) (by simpa [ByteArray.size] using hl)).mono fun e w' ⟨he, hb⟩ => ?_
  exact ⟨by simpa using he, hb⟩

theorem containsRuneA_spec (s : List UInt8) (r : Int) (h0 : 0 ≤ r) (h1 : r < 128) (σ : AHeap) : ASpec Tryz.prog 112 [str s, .v (.int .i32 r)] σ fun r' σ' => r' = .ret (boo (decide (0 ≤ Lib.indexByte s r.toNat.toUInt8))) ∧ σ' = σ := by
  refine aspec_below [.string ⟨s.toArray⟩, .int .i32 r] fun w B hg _ => ?_
  refine (Tryz.strings_ContainsRune_ascii ⟨s.toArray⟩ r w h0 h1).mono fun e w' ⟨he, hw⟩ => ?_
  subst hw
  exact ⟨by simpa using he, Below.refl _ _⟩
theorem indexByte_spec (s : List UInt8) (c : Int) (σ : AHeap) : ASpec Tryz.prog 156 [str s, .v (.int .u8 c)] σ fun r' σ' => r' = .ret (int (Lib.indexByte s c.toNat.toUInt8)) ∧ σ' = σ := by
  refine aspec_below [.string ⟨s.toArray⟩, .int .u8 c] fun w B hg _ => ?_
  refine (Any.strings_IndexByte { Tryz.lays151 with } ⟨s.toArray⟩ c w).mono fun e w' ⟨he, hw⟩ => ?_
  subst hw
  exact ⟨by simpa using he, Below.refl _ _⟩

end Go.Proofs.YtnahdpjbddfhgaaGreatDoor
set_option linter.unusedVariables false
set_option linter.unusedSimpArgs false
namespace Go.Proofs.YtnahdpjbddfhgaaGreatDoor
open Go Go.AL
set_option maxRecDepth 100000
theorem contains3 (y : UInt8) : Lib.contains [34, 92, 110] [y] = decide (y = 34 ∨ y = 92 ∨ y = 110) := by
  have : ∀ n : Fin 256, Lib.contains [34, 92, 110] [UInt8.ofNat n.val] = decide (UInt8.ofNat n.val = 34 ∨ UInt8.ofNat n.val = 92 ∨ UInt8.ofNat n.val = 110) := by decide +kernel
  have := this ⟨y.toNat, y.toNat_lt⟩
  simpa using this
/-- a text in quotes, behind its opening quote: what it says, what is left, whether something is wrong -/
def txt : List UInt8 → List UInt8 → Bool → List UInt8 × List UInt8 × Bool
  | [], _, _ => ([], [], true)
  | x :: r, b, bad =>
    if x = 34 then (b, r, bad) else
    if x = 10 then txt r b true else
    if x = 92 then match r with
      | y :: r' => if y = 34 ∨ y = 92 ∨ y = 110 then txt r' (b ++ [if y = 110 then 10 else y]) bad else txt (y :: r') b true
      | [] => txt [] b true
    else txt r (b ++ [x]) bad
 termination_by s => s.length
theorem drop_cons {s : List UInt8} {i : Nat} {x : UInt8} (h : s[i]? = some x) : s.drop i = x :: s.drop (i + 1) := by
  have hi := (List.getElem?_eq_some_iff.1 h).1
  rw [List.drop_eq_getElem_cons hi]
  congr 1
  simpa [List.getElem?_eq_getElem hi] using h

theorem txt_q {s : List UInt8} {i : Nat} {b : List UInt8} {bad : Bool} (h : s[i]? = some 34) : txt (s.drop i) b bad = (b, s.drop (i + 1), bad) := by rw [drop_cons h, txt.eq_def]; simp
theorem txt_nl {s : List UInt8} {i : Nat} {b : List UInt8} {bad : Bool} (h : s[i]? = some 10) : txt (s.drop i) b bad = txt (s.drop (i + 1)) b true := by rw [drop_cons h, txt.eq_def]; simp
theorem txt_esc {s : List UInt8} {i : Nat} {b : List UInt8} {bad : Bool} {y : UInt8} (h : s[i]? = some 92) (h2 : s[i + 1]? = some y) (hy : y = 34 ∨ y = 92 ∨ y = 110) :
    txt (s.drop i) b bad = txt (s.drop (i + 2)) (b ++ [if y = 110 then 10 else y]) bad := by
  rw [drop_cons h, drop_cons h2, txt.eq_def]; simp [hy]
theorem txt_escn {s : List UInt8} {i : Nat} {b : List UInt8} {bad : Bool} (h : s[i]? = some 92) (h2 : s[i + 1]? = some 110) : txt (s.drop i) b bad = txt (s.drop (i + 2)) (b ++ [10]) bad := by
  rw [drop_cons h, drop_cons h2, txt.eq_def]; simp
theorem txt_bad1 {s : List UInt8} {i : Nat} {b : List UInt8} {bad : Bool} {y : UInt8} (h : s[i]? = some 92) (h2 : s[i + 1]? = some y) (hy : ¬ (y = 34 ∨ y = 92 ∨ y = 110)) :
    txt (s.drop i) b bad = txt (s.drop (i + 1)) b true := by
  rw [drop_cons h, drop_cons h2, txt.eq_def]; simp [hy]
theorem txt_bad0 {s : List UInt8} {i : Nat} {b : List UInt8} {bad : Bool} (h : s[i]? = some 92) (h2 : s.length ≤ i + 1) : txt (s.drop i) b bad = txt (s.drop (i + 1)) b true := by
  rw [drop_cons h, List.drop_of_length_le h2, txt.eq_def]; simp
theorem txt_ch {s : List UInt8} {i : Nat} {b : List UInt8} {bad : Bool} {x : UInt8} (h : s[i]? = some x) (h1 : ¬ x = 34) (h2 : ¬ x = 10) (h3 : ¬ x = 92) : txt (s.drop i) b bad = txt (s.drop (i + 1)) (b ++ [x]) bad := by
  rw [drop_cons h, txt.eq_def]; simp [h1, h2, h3]
theorem txt_end {s : List UInt8} {i : Nat} {b : List UInt8} {bad : Bool} (h : s.length ≤ i) : txt (s.drop i) b bad = ([], [], true) := by rw [List.drop_of_length_le h, txt.eq_def]
theorem nxt_len (s g : List UInt8) : (nxt s g).length ≤ s.length := by
  have h : (trimL 32 s).length ≤ s.length := (List.dropWhile_sublist _).length_le
  unfold nxt; split
  · simp; omega
  · exact h
theorem u8k {x : UInt8} {n : Nat} {c : UInt8} (h : (x.toNat : Int) = (n : Int)) (hc : c.toNat = n) : x = c := UInt8.toNat_inj.1 (by omega)
theorem u8n (x : UInt8) (n : Nat) (hn : n < 256) : ((x.toNat : Int) = (n : Int)) ↔ x = UInt8.ofNat n := by
  constructor
  · intro h; exact UInt8.toNat_inj.1 (by simp; omega)
  · intro h; rw [h]; simp; omega

theorem text_spec (p : Nat) (s0 : List UInt8) (bad : Bool) (σ : AHeap) (hp : σ p = some (scn s0 bad)) (hl : s0.length ≤ 1000000) : ASpec Tryz.prog 53 [.ref p 0 0] σ fun r σ' => r = .ret (str (txt (nxt s0 [34]) [] (bad || !hasPre (trimL 32 s0) [34])).1) ∧ σ' = upd σ p (scn (txt (nxt s0 [34]) [] (bad || !hasPre (trimL 32 s0) [34])).2.1 (txt (nxt s0 [34]) [] (bad || !hasPre (trimL 32 s0) [34])).2.2) := by
  refine aspec_enter (N := 110) (rs := [.tmp 2]) Tryz.func53 rfl rfl rfl rfl rfl rfl ?_
  refine awp_seq ?_
  refine awp_region ?_
  refine aops_v rfl rfl rfl (a_assign rfl rfl ?_)
  refine aops_nil ?_
  refine thenE_n ?_
  refine awp_seq ?_
  refine awp_region ?_
  refine aops_v rfl rfl rfl (a_assign rfl rfl ?_)
  refine aops_nil ?_
  refine thenE_n ?_
  refine awp_seq ?_
  refine awp_seq ?_
  refine awp_region ?_
  refine aops_v rfl rfl rfl (a_move rfl rfl ?_)
  refine aops_call_eq rfl rfl rfl rfl cf49 rfl (next_spec p s0 [34] bad _ hp) ?_
  refine aops_v rfl rfl rfl (a_not rfl rfl ?_)
  refine aops_nil ?_
  refine thenE_n ?_
  refine awp_cond rfl (fun h1 => ?_) (fun h1 => ?_)
  · try simp only [zz1, zz2, ne_eq, zz4, zz5, zz6, gt_iff_lt, ge_iff_le, zz9, zz0] at h1
    refine awp_region ?_
    refine aops_v rfl rfl rfl (a_move rfl rfl ?_)
    first | refine aops_v rfl rfl rfl (a_nilCheck rfl rfl ?_) | refine aops_v rfl rfl rfl (a_nilCheck_pin rfl rfl ?_) | refine aops_v rfl rfl rfl (a_nilCheck_clo rfl rfl ?_)
    first | refine aops_v rfl rfl rfl (a_fieldAddr rfl fk57_1 rfl rfl ?_) | refine aops_v rfl rfl rfl (a_fieldAddr_pin rfl fk57_1 rfl rfl ?_)
    first | refine aops_s rfl rfl (a_store_n (cs2 := [_, _]) rfl tk4 rfl rfl HP rfl rfl (by first | decide | (simp; done) | (simp; omega)) rfl ?_) | refine aops_s rfl rfl (a_store rfl tk4 rfl rfl HP rfl rfl (by first | decide | (simp [stv, AV.cells]; done) | (simp [stv, AV.cells]; omega)) ?_)
    refine aops_nil ?_
    refine thenE_n ?_
    refine awp_seq ?_
    refine awp_seq ?_
    obtain ⟨bd, hbd⟩ : ∃ bd, bd = (bad || !hasPre (trimL 32 s0) [34]) := ⟨_, rfl⟩
    obtain ⟨s, hs⟩ : ∃ s, s = nxt s0 [34] := ⟨_, rfl⟩
    have hsl : s.length ≤ 1000000 := by have := nxt_len s0 [34]; rw [hs]; omega
    refine awp_heap (σ := upd σ p (scn s bd)) (by simp [upd_upd, stv, AV.cells, scn, *]) ?_
    rw [← hs, ← hbd]
    clear hbd hs
    refine awp_region ?_
    refine aops_v rfl rfl rfl (a_assign rfl rfl ?_)
    refine aops_nil ?_
    refine thenE_n ?_
    refine awp_block ?_
    refine awp_fresh fun id0 hid00 => ?_
    obtain ⟨hne0, hid0⟩ := ne_of_upd hid00
    refine awp_loop (S := Nat × List UInt8 × Bool × Nat × Nat) (fun x => [(0, .ref p 0 0), (3, slv 1 (x.2.1.map byteA) x.2.1.length x.2.2.2.1 x.2.2.2.2), (4, int x.1)]) (fun x => slh (upd σ p (scn s x.2.2.1)) 5 (x.2.1.map byteA) x.2.1.length x.2.2.2.1 x.2.2.2.2) (fun x => x.1 ≤ s.length ∧ txt (s.drop x.1) x.2.1 x.2.2.1 = txt s [] bd ∧ x.2.1.length ≤ x.1 ∧ σ x.2.2.2.1 = none ∧ p ≠ x.2.2.2.1) (fun x => s.length - x.1) ⟨(0, [], bd, id0, 0), ⟨by simp, by simp, by simp, hid0, hne0⟩, EL, rfl⟩ ?_
    rintro ⟨i, b, bd2, id, ver⟩ ⟨hi, ht, hb, hid, hne⟩
    dsimp only at hi ht hb hid hne
    dsimp only
    have hne2 : id ≠ p := fun e => hne e.symm
    have hid2 : (upd σ p (scn s bd2)) id = none := by rw [upd_ne _ _ hne2]; exact hid
    refine awp_seq ?_
    refine awp_seq ?_
    refine awp_region ?_
    refine aops_v rfl rfl rfl (a_move rfl rfl ?_)
    refine aops_v rfl rfl rfl (a_move rfl rfl ?_)
    first | refine aops_v rfl rfl rfl (a_nilCheck rfl rfl ?_) | refine aops_v rfl rfl rfl (a_nilCheck_pin rfl rfl ?_) | refine aops_v rfl rfl rfl (a_nilCheck_clo rfl rfl ?_)
    first | refine aops_v rfl rfl rfl (a_fieldAddr rfl fk57_0 rfl rfl ?_) | refine aops_v rfl rfl rfl (a_fieldAddr_pin rfl fk57_0 rfl rfl ?_)
    first | refine aops_v rfl rfl rfl (a_load_pin rfl tk9 rfl rfl ?_) | refine aops_v rfl rfl rfl (a_load rfl tk9 rfl HP rfl ?_)
    refine aops_v rfl rfl rfl (a_len_str rfl ist9 rfl ?_)
    refine aops_v rfl rfl rfl (a_int rfl rfl rfl rfl ?_)
    refine aops_nil ?_
    refine thenE_n ?_
    refine awp_cond rfl (fun h2 => ?_) (fun h2 => ?_)
    · try simp only [zz1, zz2, ne_eq, zz4, zz5, zz6, gt_iff_lt, ge_iff_le, zz9, zz0] at h2
      refine awp_skip ?_
      refine thenE_n ?_
      refine awp_seq ?_
      refine awp_block ?_
      refine awp_seq ?_
      refine awp_region ?_
      refine aops_v rfl rfl rfl (a_move rfl rfl ?_)
      first | refine aops_v rfl rfl rfl (a_nilCheck rfl rfl ?_) | refine aops_v rfl rfl rfl (a_nilCheck_pin rfl rfl ?_) | refine aops_v rfl rfl rfl (a_nilCheck_clo rfl rfl ?_)
      first | refine aops_v rfl rfl rfl (a_fieldAddr rfl fk57_0 rfl rfl ?_) | refine aops_v rfl rfl rfl (a_fieldAddr_pin rfl fk57_0 rfl rfl ?_)
      first | refine aops_v rfl rfl rfl (a_load_pin rfl tk9 rfl rfl ?_) | refine aops_v rfl rfl rfl (a_load rfl tk9 rfl HP rfl ?_)
      refine aops_v rfl rfl rfl (a_move rfl rfl ?_)
      obtain ⟨x, hx⟩ : ∃ x, s[i]? = some x := ⟨_, List.getElem?_eq_getElem (by omega)⟩
      refine aops_v rfl rfl rfl (a_index_str rfl ist9 rfl rfl NT (by omega) (by first | assumption | rfl) ?_)
      refine aops_v rfl rfl rfl (a_assign rfl rfl ?_)
      refine aops_nil ?_
      refine thenE_n ?_
      refine awp_block ?_
      refine awp_seq ?_
      refine awp_region ?_
      refine aops_v rfl rfl rfl (a_move rfl rfl ?_)
      refine aops_v rfl rfl rfl (a_int rfl rfl rfl rfl ?_)
      refine aops_v rfl rfl rfl (a_assign rfl rfl ?_)
      refine aops_nil ?_
      refine thenE_n ?_
      refine awp_cond rfl (fun h3 => ?_) (fun h3 => ?_)
      · try simp only [zz1, zz2, ne_eq, zz4, zz5, zz6, gt_iff_lt, ge_iff_le, zz9, zz0] at h3
        have h34 : s[i]? = some 34 := by rw [hx, u8k (n := 34) (c := 34) h3 rfl]
        refine awp_seq ?_
        refine awp_region ?_
        refine aops_v rfl rfl rfl (a_move rfl rfl ?_)
        refine aops_v rfl rfl rfl (a_move rfl rfl ?_)
        first | refine aops_v rfl rfl rfl (a_nilCheck rfl rfl ?_) | refine aops_v rfl rfl rfl (a_nilCheck_pin rfl rfl ?_) | refine aops_v rfl rfl rfl (a_nilCheck_clo rfl rfl ?_)
        first | refine aops_v rfl rfl rfl (a_fieldAddr rfl fk57_0 rfl rfl ?_) | refine aops_v rfl rfl rfl (a_fieldAddr_pin rfl fk57_0 rfl rfl ?_)
        first | refine aops_v rfl rfl rfl (a_load_pin rfl tk9 rfl rfl ?_) | refine aops_v rfl rfl rfl (a_load rfl tk9 rfl HP rfl ?_)
        refine aops_v rfl rfl rfl (a_move rfl rfl ?_)
        first | refine aops_v rfl rfl rfl (a_add rfl rfl rfl (by simp only [Go.AL.lo, Go.AL.hi]; omega) ?_) | refine aops_v rfl rfl rfl (a_int rfl rfl rfl rfl ?_)
        refine aops_v rfl rfl rfl (a_slice_drop rfl ist9 rfl rfl NT (by omega) (by omega) ?_)
        first | refine aops_v rfl rfl rfl (a_nilCheck rfl rfl ?_) | refine aops_v rfl rfl rfl (a_nilCheck_pin rfl rfl ?_) | refine aops_v rfl rfl rfl (a_nilCheck_clo rfl rfl ?_)
        first | refine aops_v rfl rfl rfl (a_fieldAddr rfl fk57_0 rfl rfl ?_) | refine aops_v rfl rfl rfl (a_fieldAddr_pin rfl fk57_0 rfl rfl ?_)
        first | refine aops_s rfl rfl (a_store_n (cs2 := [_, _]) rfl tk9 rfl rfl HP rfl rfl (by first | decide | (simp; done) | (simp; omega)) rfl ?_) | refine aops_s rfl rfl (a_store rfl tk9 rfl rfl HP rfl rfl (by first | decide | (simp [stv, AV.cells]; done) | (simp [stv, AV.cells]; omega)) ?_)
        rw [slh_upd _ _ _ _ hne, upd_upd]
        refine aops_nil ?_
        refine thenE_n ?_
        refine awp_seq ?_
        refine awp_region ?_
        refine aops_v rfl rfl rfl (a_move rfl rfl ?_)
        refine aops_v rfl rfl rfl (a_bytes_str rfl isb103 ist9 rfl (by first | exact Src.sl (by simp) | exact .lst (by simp) | exact .arr HP (by simp)) ?_)
        refine aops_v rfl rfl rfl (a_assign rfl rfl ?_)
        refine aops_nil ?_
        refine thenE_n ?_
        refine awp_ret ?_
        change Gst _ _ _ _
        refine gst_sl_del (by rw [upd_ne _ _ hne2]; exact hid) ?_
        refine fin1 rfl ?_
        exact ⟨by rw [← ht, txt_q h34], by rw [← ht, txt_q h34]; rfl⟩
      · try simp only [zz1, zz2, ne_eq, zz4, zz5, zz6, gt_iff_lt, ge_iff_le, zz9, zz0] at h3
        have hx1 : ¬ x = 34 := fun e => h3 (by subst e; rfl)
        refine awp_seq ?_
        refine awp_region ?_
        refine aops_v rfl rfl rfl (a_move rfl rfl ?_)
        refine aops_v rfl rfl rfl (a_int rfl rfl rfl rfl ?_)
        refine aops_v rfl rfl rfl (a_assign rfl rfl ?_)
        refine aops_nil ?_
        refine thenE_n ?_
        refine awp_cond rfl (fun h4 => ?_) (fun h4 => ?_)
        · try simp only [zz1, zz2, ne_eq, zz4, zz5, zz6, gt_iff_lt, ge_iff_le, zz9, zz0] at h4
          have h10 : s[i]? = some 10 := by rw [hx, u8k (n := 10) (c := 10) h4 rfl]
          refine awp_region ?_
          refine aops_v rfl rfl rfl (a_move rfl rfl ?_)
          first | refine aops_v rfl rfl rfl (a_nilCheck rfl rfl ?_) | refine aops_v rfl rfl rfl (a_nilCheck_pin rfl rfl ?_) | refine aops_v rfl rfl rfl (a_nilCheck_clo rfl rfl ?_)
          first | refine aops_v rfl rfl rfl (a_fieldAddr rfl fk57_1 rfl rfl ?_) | refine aops_v rfl rfl rfl (a_fieldAddr_pin rfl fk57_1 rfl rfl ?_)
          first | refine aops_s rfl rfl (a_store_n (cs2 := [_, _]) rfl tk4 rfl rfl HP rfl rfl (by first | decide | (simp; done) | (simp; omega)) rfl ?_) | refine aops_s rfl rfl (a_store rfl tk4 rfl rfl HP rfl rfl (by first | decide | (simp [stv, AV.cells]; done) | (simp [stv, AV.cells]; omega)) ?_)
          rw [slh_upd _ _ _ _ hne, upd_upd]
          refine aops_nil ?_
          refine blockE_n ?_
          refine blockE_n ?_
          refine thenE_n ?_
          refine awp_region ?_
          refine aops_v rfl rfl rfl (a_move rfl rfl ?_)
          first | refine aops_v rfl rfl rfl (a_add rfl rfl rfl (by simp only [Go.AL.lo, Go.AL.hi]; omega) ?_) | refine aops_v rfl rfl rfl (a_int rfl rfl rfl rfl ?_)
          refine aops_v rfl rfl rfl (a_assign rfl rfl ?_)
          refine aops_nil ?_
          refine thenE_n ?_
          exact .done ⟨(i + 1, b, true, id, ver), ⟨by first | omega | (simp; omega), by rw [← ht, txt_nl h10], by first | omega | (simp; omega), by assumption, by assumption⟩, by first | omega | (dsimp only; omega), EL, by first | rfl | simp [stv, scn, AV.cells]⟩
        · try simp only [zz1, zz2, ne_eq, zz4, zz5, zz6, gt_iff_lt, ge_iff_le, zz9, zz0] at h4
          have hx2 : ¬ x = 10 := fun e => h4 (by subst e; rfl)
          refine awp_seq ?_
          refine awp_region ?_
          refine aops_v rfl rfl rfl (a_move rfl rfl ?_)
          refine aops_v rfl rfl rfl (a_int rfl rfl rfl rfl ?_)
          refine aops_v rfl rfl rfl (a_move rfl rfl ?_)
          refine aops_bool (fun h5 => ?_) (fun h5 => ?_)
          · try simp only [zz1, zz2, ne_eq, zz4, zz5, zz6, gt_iff_lt, ge_iff_le, zz9, zz0] at h5
            have h92 : s[i]? = some 92 := by rw [hx, u8k (n := 92) (c := 92) h5 rfl]
            refine aops_yes rfl rfl rfl rfl ?_
            refine aops_v rfl rfl rfl (a_move rfl rfl ?_)
            refine aops_yes rfl rfl rfl rfl ?_
            first | refine aops_v rfl rfl rfl (a_add rfl rfl rfl (by simp only [Go.AL.lo, Go.AL.hi]; omega) ?_) | refine aops_v rfl rfl rfl (a_int rfl rfl rfl rfl ?_)
            refine aops_yes rfl rfl rfl rfl ?_
            refine aops_v rfl rfl rfl (a_move rfl rfl ?_)
            refine aops_yes rfl rfl rfl rfl ?_
            first | refine aops_v rfl rfl rfl (a_nilCheck rfl rfl ?_) | refine aops_v rfl rfl rfl (a_nilCheck_pin rfl rfl ?_) | refine aops_v rfl rfl rfl (a_nilCheck_clo rfl rfl ?_)
            refine aops_yes rfl rfl rfl rfl ?_
            first | refine aops_v rfl rfl rfl (a_fieldAddr rfl fk57_0 rfl rfl ?_) | refine aops_v rfl rfl rfl (a_fieldAddr_pin rfl fk57_0 rfl rfl ?_)
            refine aops_yes rfl rfl rfl rfl ?_
            first | refine aops_v rfl rfl rfl (a_load_pin rfl tk9 rfl rfl ?_) | refine aops_v rfl rfl rfl (a_load rfl tk9 rfl HP rfl ?_)
            refine aops_yes rfl rfl rfl rfl ?_
            refine aops_v rfl rfl rfl (a_len_str rfl ist9 rfl ?_)
            refine aops_yes rfl rfl rfl rfl ?_
            refine aops_v rfl rfl rfl (a_int rfl rfl rfl rfl ?_)
            refine aops_v rfl rfl rfl (a_pick rfl rfl rfl ?_)
            refine aops_v rfl rfl rfl (a_move rfl rfl ?_)
            refine aops_bool (fun h6 => ?_) (fun h6 => ?_)
            · try simp only [zz1, zz2, ne_eq, zz4, zz5, zz6, gt_iff_lt, ge_iff_le, zz9, zz0] at h6
              obtain ⟨y, hy⟩ : ∃ y, s[i + 1]? = some y := ⟨_, List.getElem?_eq_getElem (by omega)⟩
              refine aops_yes rfl rfl rfl rfl ?_
              refine aops_v rfl rfl rfl (a_move rfl rfl ?_)
              refine aops_yes rfl rfl rfl rfl ?_
              first | refine aops_v rfl rfl rfl (a_nilCheck rfl rfl ?_) | refine aops_v rfl rfl rfl (a_nilCheck_pin rfl rfl ?_) | refine aops_v rfl rfl rfl (a_nilCheck_clo rfl rfl ?_)
              refine aops_yes rfl rfl rfl rfl ?_
              first | refine aops_v rfl rfl rfl (a_fieldAddr rfl fk57_0 rfl rfl ?_) | refine aops_v rfl rfl rfl (a_fieldAddr_pin rfl fk57_0 rfl rfl ?_)
              refine aops_yes rfl rfl rfl rfl ?_
              first | refine aops_v rfl rfl rfl (a_load_pin rfl tk9 rfl rfl ?_) | refine aops_v rfl rfl rfl (a_load rfl tk9 rfl HP rfl ?_)
              refine aops_yes rfl rfl rfl rfl ?_
              refine aops_v rfl rfl rfl (a_move rfl rfl ?_)
              refine aops_yes rfl rfl rfl rfl ?_
              first | refine aops_v rfl rfl rfl (a_add rfl rfl rfl (by simp only [Go.AL.lo, Go.AL.hi]; omega) ?_) | refine aops_v rfl rfl rfl (a_int rfl rfl rfl rfl ?_)
              refine aops_yes rfl rfl rfl rfl ?_
              refine aops_v rfl rfl rfl (a_move rfl rfl ?_)
              refine aops_yes rfl rfl rfl rfl ?_
              first | refine aops_v rfl rfl rfl (a_add rfl rfl rfl (by simp only [Go.AL.lo, Go.AL.hi]; omega) ?_) | refine aops_v rfl rfl rfl (a_int rfl rfl rfl rfl ?_)
              refine aops_yes rfl rfl rfl rfl ?_
              refine aops_v rfl rfl rfl (a_slice_mid rfl ist9 rfl rfl NT rfl NT (by omega) (by omega) (by omega) ?_)
              rw [show (s.drop (i + 1)).take (i + 2 - (i + 1)) = [y] by rw [drop_cons hy]; simp]
              refine aops_yes rfl rfl rfl rfl ?_
              refine aops_call_eq rfl rfl rfl rfl cf72 rfl (contains_spec _ _ (by simp) _) ?_
              rw [contains3]
              refine aops_v rfl rfl rfl (a_pick rfl rfl rfl ?_)
              refine aops_v rfl rfl rfl (a_assign rfl rfl ?_)
              refine aops_nil ?_
              refine thenE_n ?_
              refine awp_cond rfl (fun h7 => ?_) (fun h7 => ?_)
              · try simp only [zz1, zz2, ne_eq, zz4, zz5, zz6, gt_iff_lt, ge_iff_le, zz9, zz0] at h7
                have hyy : y = 34 ∨ y = 92 ∨ y = 110 := by simpa using h7
                refine awp_seq ?_
                refine awp_region ?_
                refine aops_v rfl rfl rfl (a_move rfl rfl ?_)
                first | refine aops_v rfl rfl rfl (a_add rfl rfl rfl (by simp only [Go.AL.lo, Go.AL.hi]; omega) ?_) | refine aops_v rfl rfl rfl (a_int rfl rfl rfl rfl ?_)
                refine aops_v rfl rfl rfl (a_assign rfl rfl ?_)
                refine aops_nil ?_
                refine thenE_n ?_
                refine awp_seq ?_
                refine awp_region ?_
                refine aops_v rfl rfl rfl (a_move rfl rfl ?_)
                first | refine aops_v rfl rfl rfl (a_nilCheck rfl rfl ?_) | refine aops_v rfl rfl rfl (a_nilCheck_pin rfl rfl ?_) | refine aops_v rfl rfl rfl (a_nilCheck_clo rfl rfl ?_)
                first | refine aops_v rfl rfl rfl (a_fieldAddr rfl fk57_0 rfl rfl ?_) | refine aops_v rfl rfl rfl (a_fieldAddr_pin rfl fk57_0 rfl rfl ?_)
                first | refine aops_v rfl rfl rfl (a_load_pin rfl tk9 rfl rfl ?_) | refine aops_v rfl rfl rfl (a_load rfl tk9 rfl HP rfl ?_)
                refine aops_v rfl rfl rfl (a_move rfl rfl ?_)
                refine aops_v rfl rfl rfl (a_index_str rfl ist9 rfl rfl (tnA1 _) (by omega) hy ?_)
                refine aops_v rfl rfl rfl (a_int rfl rfl rfl rfl ?_)
                refine aops_nil ?_
                refine thenE_n ?_
                refine awp_cond rfl (fun h8 => ?_) (fun h8 => ?_)
                · try simp only [zz1, zz2, ne_eq, zz4, zz5, zz6, gt_iff_lt, ge_iff_le, zz9, zz0] at h8
                  have hy110 : y = 110 := u8k (n := 110) (c := 110) h8 rfl
                  subst hy110
                  refine awp_region ?_
                  refine aops_v rfl rfl rfl (a_move rfl rfl ?_)
                  refine aops_v rfl rfl rfl (a_buildSlice (res := [_]) rfl sk103 rfl rfl rfl ?_)
                  refine aops_v rfl rfl rfl (a_append_sl rfl sk103 rfl (by first | rfl | (simp; done)) rfl (by first | exact .lst (by first | rfl | (simp; done) | (simp; omega)) | exact .nil | exact .arr HP (by first | rfl | simp | (simp; omega)) | exact Src.sl (by simp)) (by first | rfl | (simp [AV.one, Value.oneCell']; done)) (by first | omega | (simp; omega)) (by simp only [maxLen]; first | omega | (simp; omega)) (by first | assumption | (rw [upd_ne _ _ (by assumption)]; assumption)) ?_)
                  intro id88 ver88 hid88
                  obtain ⟨hneA, hidA⟩ := ne_of_upd hid88
                  have eA1 : b.map byteA ++ [AV.v (.int .u8 10)] = (b ++ [10]).map byteA := by simp
                  have eA2 : b.length + 1 = (b ++ [10]).length := by simp
                  rw [eA1, eA2]
                  have hneB : id88 ≠ p := fun e => hneA e.symm
                  refine aops_v rfl rfl rfl (a_assign rfl rfl ?_)
                  refine aops_nil ?_
                  refine blockE_n ?_
                  refine blockE_n ?_
                  refine thenE_n ?_
                  refine awp_region ?_
                  refine aops_v rfl rfl rfl (a_move rfl rfl ?_)
                  first | refine aops_v rfl rfl rfl (a_add rfl rfl rfl (by simp only [Go.AL.lo, Go.AL.hi]; omega) ?_) | refine aops_v rfl rfl rfl (a_int rfl rfl rfl rfl ?_)
                  refine aops_v rfl rfl rfl (a_assign rfl rfl ?_)
                  refine aops_nil ?_
                  refine thenE_n ?_
                  exact .done ⟨(i + 2, b ++ [10], bd2, id88, ver88), ⟨by first | omega | (simp; omega), by rw [← ht, txt_escn h92 hy], by first | omega | (simp; omega), by assumption, by assumption⟩, by first | omega | (dsimp only; omega), EL, by first | rfl | simp [stv, scn, AV.cells]⟩
                · try simp only [zz1, zz2, ne_eq, zz4, zz5, zz6, gt_iff_lt, ge_iff_le, zz9, zz0] at h8
                  have hy110 : ¬ y = 110 := fun e => h8 (by subst e; rfl)
                  refine awp_region ?_
                  refine aops_v rfl rfl rfl (a_move rfl rfl ?_)
                  refine aops_v rfl rfl rfl (a_move rfl rfl ?_)
                  first | refine aops_v rfl rfl rfl (a_nilCheck rfl rfl ?_) | refine aops_v rfl rfl rfl (a_nilCheck_pin rfl rfl ?_) | refine aops_v rfl rfl rfl (a_nilCheck_clo rfl rfl ?_)
                  first | refine aops_v rfl rfl rfl (a_fieldAddr rfl fk57_0 rfl rfl ?_) | refine aops_v rfl rfl rfl (a_fieldAddr_pin rfl fk57_0 rfl rfl ?_)
                  first | refine aops_v rfl rfl rfl (a_load_pin rfl tk9 rfl rfl ?_) | refine aops_v rfl rfl rfl (a_load rfl tk9 rfl HP rfl ?_)
                  refine aops_v rfl rfl rfl (a_move rfl rfl ?_)
                  refine aops_v rfl rfl rfl (a_index_str rfl ist9 rfl rfl (tnA1 _) (by omega) hy ?_)
                  refine aops_v rfl rfl rfl (a_buildSlice (res := [_]) rfl sk103 rfl rfl rfl ?_)
                  refine aops_v rfl rfl rfl (a_append_sl rfl sk103 rfl (by first | rfl | (simp; done)) rfl (by first | exact .lst (by first | rfl | (simp; done) | (simp; omega)) | exact .nil | exact .arr HP (by first | rfl | simp | (simp; omega)) | exact Src.sl (by simp)) (by first | rfl | (simp [AV.one, Value.oneCell']; done)) (by first | omega | (simp; omega)) (by simp only [maxLen]; first | omega | (simp; omega)) (by first | assumption | (rw [upd_ne _ _ (by assumption)]; assumption)) ?_)
                  intro id97 ver97 hid97
                  obtain ⟨hneA, hidA⟩ := ne_of_upd hid97
                  have eA1 : b.map byteA ++ [byteA y] = (b ++ [y]).map byteA := by simp
                  have eA2 : b.length + 1 = (b ++ [y]).length := by simp
                  rw [eA1, eA2]
                  have hneB : id97 ≠ p := fun e => hneA e.symm
                  refine aops_v rfl rfl rfl (a_assign rfl rfl ?_)
                  refine aops_nil ?_
                  refine blockE_n ?_
                  refine blockE_n ?_
                  refine thenE_n ?_
                  refine awp_region ?_
                  refine aops_v rfl rfl rfl (a_move rfl rfl ?_)
                  first | refine aops_v rfl rfl rfl (a_add rfl rfl rfl (by simp only [Go.AL.lo, Go.AL.hi]; omega) ?_) | refine aops_v rfl rfl rfl (a_int rfl rfl rfl rfl ?_)
                  refine aops_v rfl rfl rfl (a_assign rfl rfl ?_)
                  refine aops_nil ?_
                  refine thenE_n ?_
                  exact .done ⟨(i + 2, b ++ [y], bd2, id97, ver97), ⟨by first | omega | (simp; omega), by rw [← ht, txt_esc h92 hy hyy, if_neg hy110], by first | omega | (simp; omega), by assumption, by assumption⟩, by first | omega | (dsimp only; omega), EL, by first | rfl | simp [stv, scn, AV.cells]⟩
              · try simp only [zz1, zz2, ne_eq, zz4, zz5, zz6, gt_iff_lt, ge_iff_le, zz9, zz0] at h7
                have hyn : ¬ (y = 34 ∨ y = 92 ∨ y = 110) := by simpa using h7
                refine awp_seq ?_
                refine awp_region ?_
                refine aops_v rfl rfl rfl (a_move rfl rfl ?_)
                refine aops_v rfl rfl rfl (a_int rfl rfl rfl rfl ?_)
                refine aops_v rfl rfl rfl (a_assign rfl rfl ?_)
                refine aops_nil ?_
                refine thenE_n ?_
                refine awp_cond rfl (fun h9 => ?_) (fun h9 => ?_)
                · try simp only [zz1, zz2, ne_eq, zz4, zz5, zz6, gt_iff_lt, ge_iff_le, zz9, zz0] at h9
                  refine awp_region ?_
                  refine aops_v rfl rfl rfl (a_move rfl rfl ?_)
                  first | refine aops_v rfl rfl rfl (a_nilCheck rfl rfl ?_) | refine aops_v rfl rfl rfl (a_nilCheck_pin rfl rfl ?_) | refine aops_v rfl rfl rfl (a_nilCheck_clo rfl rfl ?_)
                  first | refine aops_v rfl rfl rfl (a_fieldAddr rfl fk57_1 rfl rfl ?_) | refine aops_v rfl rfl rfl (a_fieldAddr_pin rfl fk57_1 rfl rfl ?_)
                  first | refine aops_s rfl rfl (a_store_n (cs2 := [_, _]) rfl tk4 rfl rfl HP rfl rfl (by first | decide | (simp; done) | (simp; omega)) rfl ?_) | refine aops_s rfl rfl (a_store rfl tk4 rfl rfl HP rfl rfl (by first | decide | (simp [stv, AV.cells]; done) | (simp [stv, AV.cells]; omega)) ?_)
                  rw [slh_upd _ _ _ _ hne, upd_upd]
                  refine aops_nil ?_
                  refine blockE_n ?_
                  refine blockE_n ?_
                  refine thenE_n ?_
                  refine awp_region ?_
                  refine aops_v rfl rfl rfl (a_move rfl rfl ?_)
                  first | refine aops_v rfl rfl rfl (a_add rfl rfl rfl (by simp only [Go.AL.lo, Go.AL.hi]; omega) ?_) | refine aops_v rfl rfl rfl (a_int rfl rfl rfl rfl ?_)
                  refine aops_v rfl rfl rfl (a_assign rfl rfl ?_)
                  refine aops_nil ?_
                  refine thenE_n ?_
                  exact .done ⟨(i + 1, b, true, id, ver), ⟨by first | omega | (simp; omega), by rw [← ht, txt_bad1 h92 hy hyn], by first | omega | (simp; omega), by assumption, by assumption⟩, by first | omega | (dsimp only; omega), EL, by first | rfl | simp [stv, scn, AV.cells]⟩
                · try simp only [zz1, zz2, ne_eq, zz4, zz5, zz6, gt_iff_lt, ge_iff_le, zz9, zz0] at h9
                  exact absurd (by rw [hx] at h92; simp at h92; rw [h92]; rfl) h9
            · try simp only [zz1, zz2, ne_eq, zz4, zz5, zz6, gt_iff_lt, ge_iff_le, zz9, zz0] at h6
              refine aops_no rfl rfl rfl rfl rfl rfl ?_
              refine aops_no rfl rfl rfl rfl rfl rfl ?_
              refine aops_no rfl rfl rfl rfl rfl rfl ?_
              refine aops_no rfl rfl rfl rfl rfl rfl ?_
              refine aops_no rfl rfl rfl rfl rfl rfl ?_
              refine aops_no rfl rfl rfl rfl rfl rfl ?_
              refine aops_no rfl rfl rfl rfl rfl rfl ?_
              refine aops_no rfl rfl rfl rfl rfl rfl ?_
              refine aops_no rfl rfl rfl rfl rfl rfl ?_
              refine aops_no rfl rfl rfl rfl rfl rfl ?_
              refine aops_v rfl rfl rfl (a_pick rfl rfl rfl ?_)
              refine aops_v rfl rfl rfl (a_assign rfl rfl ?_)
              refine aops_nil ?_
              refine thenE_n ?_
              refine awp_cond (b := false) rfl (fun h => Bool.noConfusion h) (fun _ => ?_)
              refine awp_seq ?_
              refine awp_region ?_
              refine aops_v rfl rfl rfl (a_move rfl rfl ?_)
              refine aops_v rfl rfl rfl (a_int rfl rfl rfl rfl ?_)
              refine aops_v rfl rfl rfl (a_assign rfl rfl ?_)
              refine aops_nil ?_
              refine thenE_n ?_
              refine awp_cond rfl (fun h10 => ?_) (fun h10 => ?_)
              · try simp only [zz1, zz2, ne_eq, zz4, zz5, zz6, gt_iff_lt, ge_iff_le, zz9, zz0] at h10
                refine awp_region ?_
                refine aops_v rfl rfl rfl (a_move rfl rfl ?_)
                first | refine aops_v rfl rfl rfl (a_nilCheck rfl rfl ?_) | refine aops_v rfl rfl rfl (a_nilCheck_pin rfl rfl ?_) | refine aops_v rfl rfl rfl (a_nilCheck_clo rfl rfl ?_)
                first | refine aops_v rfl rfl rfl (a_fieldAddr rfl fk57_1 rfl rfl ?_) | refine aops_v rfl rfl rfl (a_fieldAddr_pin rfl fk57_1 rfl rfl ?_)
                first | refine aops_s rfl rfl (a_store_n (cs2 := [_, _]) rfl tk4 rfl rfl HP rfl rfl (by first | decide | (simp; done) | (simp; omega)) rfl ?_) | refine aops_s rfl rfl (a_store rfl tk4 rfl rfl HP rfl rfl (by first | decide | (simp [stv, AV.cells]; done) | (simp [stv, AV.cells]; omega)) ?_)
                rw [slh_upd _ _ _ _ hne, upd_upd]
                refine aops_nil ?_
                refine blockE_n ?_
                refine blockE_n ?_
                refine thenE_n ?_
                refine awp_region ?_
                refine aops_v rfl rfl rfl (a_move rfl rfl ?_)
                first | refine aops_v rfl rfl rfl (a_add rfl rfl rfl (by simp only [Go.AL.lo, Go.AL.hi]; omega) ?_) | refine aops_v rfl rfl rfl (a_int rfl rfl rfl rfl ?_)
                refine aops_v rfl rfl rfl (a_assign rfl rfl ?_)
                refine aops_nil ?_
                refine thenE_n ?_
                exact .done ⟨(i + 1, b, true, id, ver), ⟨by first | omega | (simp; omega), by rw [← ht, txt_bad0 h92 (by omega)], by first | omega | (simp; omega), by assumption, by assumption⟩, by first | omega | (dsimp only; omega), EL, by first | rfl | simp [stv, scn, AV.cells]⟩
              · try simp only [zz1, zz2, ne_eq, zz4, zz5, zz6, gt_iff_lt, ge_iff_le, zz9, zz0] at h10
                exact absurd (by rw [hx] at h92; simp at h92; rw [h92]; rfl) h10
          · try simp only [zz1, zz2, ne_eq, zz4, zz5, zz6, gt_iff_lt, ge_iff_le, zz9, zz0] at h5
            have hx3 : ¬ x = 92 := fun e => h5 (by subst e; rfl)
            refine aops_no rfl rfl rfl rfl rfl rfl ?_
            refine aops_no rfl rfl rfl rfl rfl rfl ?_
            refine aops_no rfl rfl rfl rfl rfl rfl ?_
            refine aops_no rfl rfl rfl rfl rfl rfl ?_
            refine aops_no rfl rfl rfl rfl rfl rfl ?_
            refine aops_no rfl rfl rfl rfl rfl rfl ?_
            refine aops_no rfl rfl rfl rfl rfl rfl ?_
            refine aops_no rfl rfl rfl rfl rfl rfl ?_
            refine aops_v rfl rfl rfl (a_pick rfl rfl rfl ?_)
            refine aops_v rfl rfl rfl (a_move rfl rfl ?_)
            refine aops_no rfl rfl rfl rfl rfl rfl ?_
            refine aops_no rfl rfl rfl rfl rfl rfl ?_
            refine aops_no rfl rfl rfl rfl rfl rfl ?_
            refine aops_no rfl rfl rfl rfl rfl rfl ?_
            refine aops_no rfl rfl rfl rfl rfl rfl ?_
            refine aops_no rfl rfl rfl rfl rfl rfl ?_
            refine aops_no rfl rfl rfl rfl rfl rfl ?_
            refine aops_no rfl rfl rfl rfl rfl rfl ?_
            refine aops_no rfl rfl rfl rfl rfl rfl ?_
            refine aops_no rfl rfl rfl rfl rfl rfl ?_
            refine aops_v rfl rfl rfl (a_pick rfl rfl rfl ?_)
            refine aops_v rfl rfl rfl (a_assign rfl rfl ?_)
            refine aops_nil ?_
            refine thenE_n ?_
            refine awp_cond (b := false) rfl (fun h => Bool.noConfusion h) (fun _ => ?_)
            refine awp_seq ?_
            refine awp_region ?_
            refine aops_v rfl rfl rfl (a_move rfl rfl ?_)
            refine aops_v rfl rfl rfl (a_int rfl rfl rfl rfl ?_)
            refine aops_v rfl rfl rfl (a_assign rfl rfl ?_)
            refine aops_nil ?_
            refine thenE_n ?_
            refine awp_cond rfl (fun h11 => ?_) (fun h11 => ?_)
            · try simp only [zz1, zz2, ne_eq, zz4, zz5, zz6, gt_iff_lt, ge_iff_le, zz9, zz0] at h11
              exact absurd (u8k (n := 92) (c := 92) h11 rfl) hx3
            · try simp only [zz1, zz2, ne_eq, zz4, zz5, zz6, gt_iff_lt, ge_iff_le, zz9, zz0] at h11
              refine awp_region ?_
              refine aops_v rfl rfl rfl (a_move rfl rfl ?_)
              refine aops_v rfl rfl rfl (a_move rfl rfl ?_)
              refine aops_v rfl rfl rfl (a_buildSlice (res := [_]) rfl sk103 rfl rfl rfl ?_)
              refine aops_v rfl rfl rfl (a_append_sl rfl sk103 rfl (by first | rfl | (simp; done)) rfl (by first | exact .lst (by first | rfl | (simp; done) | (simp; omega)) | exact .nil | exact .arr HP (by first | rfl | simp | (simp; omega)) | exact Src.sl (by simp)) (by first | rfl | (simp [AV.one, Value.oneCell']; done)) (by first | omega | (simp; omega)) (by simp only [maxLen]; first | omega | (simp; omega)) (by first | assumption | (rw [upd_ne _ _ (by assumption)]; assumption)) ?_)
              intro id30 ver30 hid30
              obtain ⟨hneA, hidA⟩ := ne_of_upd hid30
              have eA1 : b.map byteA ++ [byteA x] = (b ++ [x]).map byteA := by simp
              have eA2 : b.length + 1 = (b ++ [x]).length := by simp
              rw [eA1, eA2]
              have hneB : id30 ≠ p := fun e => hneA e.symm
              refine aops_v rfl rfl rfl (a_assign rfl rfl ?_)
              refine aops_nil ?_
              refine blockE_n ?_
              refine blockE_n ?_
              refine thenE_n ?_
              refine awp_region ?_
              refine aops_v rfl rfl rfl (a_move rfl rfl ?_)
              first | refine aops_v rfl rfl rfl (a_add rfl rfl rfl (by simp only [Go.AL.lo, Go.AL.hi]; omega) ?_) | refine aops_v rfl rfl rfl (a_int rfl rfl rfl rfl ?_)
              refine aops_v rfl rfl rfl (a_assign rfl rfl ?_)
              refine aops_nil ?_
              refine thenE_n ?_
              exact .done ⟨(i + 1, b ++ [x], bd2, id30, ver30), ⟨by first | omega | (simp; omega), by rw [← ht, txt_ch hx hx1 hx2 hx3], by first | omega | (simp; omega), by assumption, by assumption⟩, by first | omega | (dsimp only; omega), EL, by first | rfl | simp [stv, scn, AV.cells]⟩
    · try simp only [zz1, zz2, ne_eq, zz4, zz5, zz6, gt_iff_lt, ge_iff_le, zz9, zz0] at h2
      refine awp_exit ?_
      refine thenE_x ?_
      refine thenE_x ?_
      refine blockE_x ?_
      refine thenE_n ?_
      refine awp_seq ?_
      refine awp_region ?_
      refine aops_v rfl rfl rfl (a_move rfl rfl ?_)
      first | refine aops_v rfl rfl rfl (a_nilCheck rfl rfl ?_) | refine aops_v rfl rfl rfl (a_nilCheck_pin rfl rfl ?_) | refine aops_v rfl rfl rfl (a_nilCheck_clo rfl rfl ?_)
      first | refine aops_v rfl rfl rfl (a_fieldAddr rfl fk57_1 rfl rfl ?_) | refine aops_v rfl rfl rfl (a_fieldAddr_pin rfl fk57_1 rfl rfl ?_)
      first | refine aops_s rfl rfl (a_store_n (cs2 := [_, _]) rfl tk4 rfl rfl HP rfl rfl (by first | decide | (simp; done) | (simp; omega)) rfl ?_) | refine aops_s rfl rfl (a_store rfl tk4 rfl rfl HP rfl rfl (by first | decide | (simp [stv, AV.cells]; done) | (simp [stv, AV.cells]; omega)) ?_)
      rw [slh_upd _ _ _ _ hne, upd_upd]
      refine aops_nil ?_
      refine thenE_n ?_
      refine awp_seq ?_
      refine awp_region ?_
      refine aops_v rfl rfl rfl (a_move rfl rfl ?_)
      first | refine aops_v rfl rfl rfl (a_nilCheck rfl rfl ?_) | refine aops_v rfl rfl rfl (a_nilCheck_pin rfl rfl ?_) | refine aops_v rfl rfl rfl (a_nilCheck_clo rfl rfl ?_)
      first | refine aops_v rfl rfl rfl (a_fieldAddr rfl fk57_0 rfl rfl ?_) | refine aops_v rfl rfl rfl (a_fieldAddr_pin rfl fk57_0 rfl rfl ?_)
      first | refine aops_s rfl rfl (a_store_n (cs2 := [_, _]) rfl tk9 rfl rfl HP rfl rfl (by first | decide | (simp; done) | (simp; omega)) rfl ?_) | refine aops_s rfl rfl (a_store rfl tk9 rfl rfl HP rfl rfl (by first | decide | (simp [stv, AV.cells]; done) | (simp [stv, AV.cells]; omega)) ?_)
      rw [slh_upd _ _ _ _ hne, upd_upd]
      refine aops_nil ?_
      refine thenE_n ?_
      refine awp_seq ?_
      refine awp_region ?_
      refine aops_v rfl rfl rfl (a_assign rfl rfl ?_)
      refine aops_nil ?_
      refine thenE_n ?_
      refine awp_ret ?_
      change Gst _ _ _ _
      refine gst_sl_del (by rw [upd_ne _ _ hne2]; exact hid) ?_
      refine fin1 rfl ?_
      exact ⟨by rw [← ht, txt_end (by omega)], by rw [← ht, txt_end (by omega)]; rfl⟩
  · try simp only [zz1, zz2, ne_eq, zz4, zz5, zz6, gt_iff_lt, ge_iff_le, zz9, zz0] at h1
    refine awp_skip ?_
    refine thenE_n ?_
    refine awp_seq ?_
    refine awp_seq ?_
    obtain ⟨bd, hbd⟩ : ∃ bd, bd = (bad || !hasPre (trimL 32 s0) [34]) := ⟨_, rfl⟩
    obtain ⟨s, hs⟩ : ∃ s, s = nxt s0 [34] := ⟨_, rfl⟩
    have hsl : s.length ≤ 1000000 := by have := nxt_len s0 [34]; rw [hs]; omega
    refine awp_heap (σ := upd σ p (scn s bd)) (by simp [upd_upd, stv, AV.cells, scn, *]) ?_
    rw [← hs, ← hbd]
    clear hbd hs
    refine awp_region ?_
    refine aops_v rfl rfl rfl (a_assign rfl rfl ?_)
    refine aops_nil ?_
    refine thenE_n ?_
    refine awp_block ?_
    refine awp_fresh fun id0 hid00 => ?_
    obtain ⟨hne0, hid0⟩ := ne_of_upd hid00
    refine awp_loop (S := Nat × List UInt8 × Bool × Nat × Nat) (fun x => [(0, .ref p 0 0), (3, slv 1 (x.2.1.map byteA) x.2.1.length x.2.2.2.1 x.2.2.2.2), (4, int x.1)]) (fun x => slh (upd σ p (scn s x.2.2.1)) 5 (x.2.1.map byteA) x.2.1.length x.2.2.2.1 x.2.2.2.2) (fun x => x.1 ≤ s.length ∧ txt (s.drop x.1) x.2.1 x.2.2.1 = txt s [] bd ∧ x.2.1.length ≤ x.1 ∧ σ x.2.2.2.1 = none ∧ p ≠ x.2.2.2.1) (fun x => s.length - x.1) ⟨(0, [], bd, id0, 0), ⟨by simp, by simp, by simp, hid0, hne0⟩, EL, rfl⟩ ?_
    rintro ⟨i, b, bd2, id, ver⟩ ⟨hi, ht, hb, hid, hne⟩
    dsimp only at hi ht hb hid hne
    dsimp only
    have hne2 : id ≠ p := fun e => hne e.symm
    have hid2 : (upd σ p (scn s bd2)) id = none := by rw [upd_ne _ _ hne2]; exact hid
    refine awp_seq ?_
    refine awp_seq ?_
    refine awp_region ?_
    refine aops_v rfl rfl rfl (a_move rfl rfl ?_)
    refine aops_v rfl rfl rfl (a_move rfl rfl ?_)
    first | refine aops_v rfl rfl rfl (a_nilCheck rfl rfl ?_) | refine aops_v rfl rfl rfl (a_nilCheck_pin rfl rfl ?_) | refine aops_v rfl rfl rfl (a_nilCheck_clo rfl rfl ?_)
    first | refine aops_v rfl rfl rfl (a_fieldAddr rfl fk57_0 rfl rfl ?_) | refine aops_v rfl rfl rfl (a_fieldAddr_pin rfl fk57_0 rfl rfl ?_)
    first | refine aops_v rfl rfl rfl (a_load_pin rfl tk9 rfl rfl ?_) | refine aops_v rfl rfl rfl (a_load rfl tk9 rfl HP rfl ?_)
    refine aops_v rfl rfl rfl (a_len_str rfl ist9 rfl ?_)
    refine aops_v rfl rfl rfl (a_int rfl rfl rfl rfl ?_)
    refine aops_nil ?_
    refine thenE_n ?_
    refine awp_cond rfl (fun h12 => ?_) (fun h12 => ?_)
    · try simp only [zz1, zz2, ne_eq, zz4, zz5, zz6, gt_iff_lt, ge_iff_le, zz9, zz0] at h12
      refine awp_skip ?_
      refine thenE_n ?_
      refine awp_seq ?_
      refine awp_block ?_
      refine awp_seq ?_
      refine awp_region ?_
      refine aops_v rfl rfl rfl (a_move rfl rfl ?_)
      first | refine aops_v rfl rfl rfl (a_nilCheck rfl rfl ?_) | refine aops_v rfl rfl rfl (a_nilCheck_pin rfl rfl ?_) | refine aops_v rfl rfl rfl (a_nilCheck_clo rfl rfl ?_)
      first | refine aops_v rfl rfl rfl (a_fieldAddr rfl fk57_0 rfl rfl ?_) | refine aops_v rfl rfl rfl (a_fieldAddr_pin rfl fk57_0 rfl rfl ?_)
      first | refine aops_v rfl rfl rfl (a_load_pin rfl tk9 rfl rfl ?_) | refine aops_v rfl rfl rfl (a_load rfl tk9 rfl HP rfl ?_)
      refine aops_v rfl rfl rfl (a_move rfl rfl ?_)
      obtain ⟨x, hx⟩ : ∃ x, s[i]? = some x := ⟨_, List.getElem?_eq_getElem (by omega)⟩
      refine aops_v rfl rfl rfl (a_index_str rfl ist9 rfl rfl NT (by omega) (by first | assumption | rfl) ?_)
      refine aops_v rfl rfl rfl (a_assign rfl rfl ?_)
      refine aops_nil ?_
      refine thenE_n ?_
      refine awp_block ?_
      refine awp_seq ?_
      refine awp_region ?_
      refine aops_v rfl rfl rfl (a_move rfl rfl ?_)
      refine aops_v rfl rfl rfl (a_int rfl rfl rfl rfl ?_)
      refine aops_v rfl rfl rfl (a_assign rfl rfl ?_)
      refine aops_nil ?_
      refine thenE_n ?_
      refine awp_cond rfl (fun h13 => ?_) (fun h13 => ?_)
      · try simp only [zz1, zz2, ne_eq, zz4, zz5, zz6, gt_iff_lt, ge_iff_le, zz9, zz0] at h13
        have h34 : s[i]? = some 34 := by rw [hx, u8k (n := 34) (c := 34) h13 rfl]
        refine awp_seq ?_
        refine awp_region ?_
        refine aops_v rfl rfl rfl (a_move rfl rfl ?_)
        refine aops_v rfl rfl rfl (a_move rfl rfl ?_)
        first | refine aops_v rfl rfl rfl (a_nilCheck rfl rfl ?_) | refine aops_v rfl rfl rfl (a_nilCheck_pin rfl rfl ?_) | refine aops_v rfl rfl rfl (a_nilCheck_clo rfl rfl ?_)
        first | refine aops_v rfl rfl rfl (a_fieldAddr rfl fk57_0 rfl rfl ?_) | refine aops_v rfl rfl rfl (a_fieldAddr_pin rfl fk57_0 rfl rfl ?_)
        first | refine aops_v rfl rfl rfl (a_load_pin rfl tk9 rfl rfl ?_) | refine aops_v rfl rfl rfl (a_load rfl tk9 rfl HP rfl ?_)
        refine aops_v rfl rfl rfl (a_move rfl rfl ?_)
        first | refine aops_v rfl rfl rfl (a_add rfl rfl rfl (by simp only [Go.AL.lo, Go.AL.hi]; omega) ?_) | refine aops_v rfl rfl rfl (a_int rfl rfl rfl rfl ?_)
        refine aops_v rfl rfl rfl (a_slice_drop rfl ist9 rfl rfl NT (by omega) (by omega) ?_)
        first | refine aops_v rfl rfl rfl (a_nilCheck rfl rfl ?_) | refine aops_v rfl rfl rfl (a_nilCheck_pin rfl rfl ?_) | refine aops_v rfl rfl rfl (a_nilCheck_clo rfl rfl ?_)
        first | refine aops_v rfl rfl rfl (a_fieldAddr rfl fk57_0 rfl rfl ?_) | refine aops_v rfl rfl rfl (a_fieldAddr_pin rfl fk57_0 rfl rfl ?_)
        first | refine aops_s rfl rfl (a_store_n (cs2 := [_, _]) rfl tk9 rfl rfl HP rfl rfl (by first | decide | (simp; done) | (simp; omega)) rfl ?_) | refine aops_s rfl rfl (a_store rfl tk9 rfl rfl HP rfl rfl (by first | decide | (simp [stv, AV.cells]; done) | (simp [stv, AV.cells]; omega)) ?_)
        rw [slh_upd _ _ _ _ hne, upd_upd]
        refine aops_nil ?_
        refine thenE_n ?_
        refine awp_seq ?_
        refine awp_region ?_
        refine aops_v rfl rfl rfl (a_move rfl rfl ?_)
        refine aops_v rfl rfl rfl (a_bytes_str rfl isb103 ist9 rfl (by first | exact Src.sl (by simp) | exact .lst (by simp) | exact .arr HP (by simp)) ?_)
        refine aops_v rfl rfl rfl (a_assign rfl rfl ?_)
        refine aops_nil ?_
        refine thenE_n ?_
        refine awp_ret ?_
        change Gst _ _ _ _
        refine gst_sl_del (by rw [upd_ne _ _ hne2]; exact hid) ?_
        refine fin1 rfl ?_
        exact ⟨by rw [← ht, txt_q h34], by rw [← ht, txt_q h34]; rfl⟩
      · try simp only [zz1, zz2, ne_eq, zz4, zz5, zz6, gt_iff_lt, ge_iff_le, zz9, zz0] at h13
        have hx1 : ¬ x = 34 := fun e => h13 (by subst e; rfl)
        refine awp_seq ?_
        refine awp_region ?_
        refine aops_v rfl rfl rfl (a_move rfl rfl ?_)
        refine aops_v rfl rfl rfl (a_int rfl rfl rfl rfl ?_)
        refine aops_v rfl rfl rfl (a_assign rfl rfl ?_)
        refine aops_nil ?_
        refine thenE_n ?_
        refine awp_cond rfl (fun h14 => ?_) (fun h14 => ?_)
        · try simp only [zz1, zz2, ne_eq, zz4, zz5, zz6, gt_iff_lt, ge_iff_le, zz9, zz0] at h14
          have h10 : s[i]? = some 10 := by rw [hx, u8k (n := 10) (c := 10) h14 rfl]
          refine awp_region ?_
          refine aops_v rfl rfl rfl (a_move rfl rfl ?_)
          first | refine aops_v rfl rfl rfl (a_nilCheck rfl rfl ?_) | refine aops_v rfl rfl rfl (a_nilCheck_pin rfl rfl ?_) | refine aops_v rfl rfl rfl (a_nilCheck_clo rfl rfl ?_)
          first | refine aops_v rfl rfl rfl (a_fieldAddr rfl fk57_1 rfl rfl ?_) | refine aops_v rfl rfl rfl (a_fieldAddr_pin rfl fk57_1 rfl rfl ?_)
          first | refine aops_s rfl rfl (a_store_n (cs2 := [_, _]) rfl tk4 rfl rfl HP rfl rfl (by first | decide | (simp; done) | (simp; omega)) rfl ?_) | refine aops_s rfl rfl (a_store rfl tk4 rfl rfl HP rfl rfl (by first | decide | (simp [stv, AV.cells]; done) | (simp [stv, AV.cells]; omega)) ?_)
          rw [slh_upd _ _ _ _ hne, upd_upd]
          refine aops_nil ?_
          refine blockE_n ?_
          refine blockE_n ?_
          refine thenE_n ?_
          refine awp_region ?_
          refine aops_v rfl rfl rfl (a_move rfl rfl ?_)
          first | refine aops_v rfl rfl rfl (a_add rfl rfl rfl (by simp only [Go.AL.lo, Go.AL.hi]; omega) ?_) | refine aops_v rfl rfl rfl (a_int rfl rfl rfl rfl ?_)
          refine aops_v rfl rfl rfl (a_assign rfl rfl ?_)
          refine aops_nil ?_
          refine thenE_n ?_
          exact .done ⟨(i + 1, b, true, id, ver), ⟨by first | omega | (simp; omega), by rw [← ht, txt_nl h10], by first | omega | (simp; omega), by assumption, by assumption⟩, by first | omega | (dsimp only; omega), EL, by first | rfl | simp [stv, scn, AV.cells]⟩
        · try simp only [zz1, zz2, ne_eq, zz4, zz5, zz6, gt_iff_lt, ge_iff_le, zz9, zz0] at h14
          have hx2 : ¬ x = 10 := fun e => h14 (by subst e; rfl)
          refine awp_seq ?_
          refine awp_region ?_
          refine aops_v rfl rfl rfl (a_move rfl rfl ?_)
          refine aops_v rfl rfl rfl (a_int rfl rfl rfl rfl ?_)
          refine aops_v rfl rfl rfl (a_move rfl rfl ?_)
          refine aops_bool (fun h15 => ?_) (fun h15 => ?_)
          · try simp only [zz1, zz2, ne_eq, zz4, zz5, zz6, gt_iff_lt, ge_iff_le, zz9, zz0] at h15
            have h92 : s[i]? = some 92 := by rw [hx, u8k (n := 92) (c := 92) h15 rfl]
            refine aops_yes rfl rfl rfl rfl ?_
            refine aops_v rfl rfl rfl (a_move rfl rfl ?_)
            refine aops_yes rfl rfl rfl rfl ?_
            first | refine aops_v rfl rfl rfl (a_add rfl rfl rfl (by simp only [Go.AL.lo, Go.AL.hi]; omega) ?_) | refine aops_v rfl rfl rfl (a_int rfl rfl rfl rfl ?_)
            refine aops_yes rfl rfl rfl rfl ?_
            refine aops_v rfl rfl rfl (a_move rfl rfl ?_)
            refine aops_yes rfl rfl rfl rfl ?_
            first | refine aops_v rfl rfl rfl (a_nilCheck rfl rfl ?_) | refine aops_v rfl rfl rfl (a_nilCheck_pin rfl rfl ?_) | refine aops_v rfl rfl rfl (a_nilCheck_clo rfl rfl ?_)
            refine aops_yes rfl rfl rfl rfl ?_
            first | refine aops_v rfl rfl rfl (a_fieldAddr rfl fk57_0 rfl rfl ?_) | refine aops_v rfl rfl rfl (a_fieldAddr_pin rfl fk57_0 rfl rfl ?_)
            refine aops_yes rfl rfl rfl rfl ?_
            first | refine aops_v rfl rfl rfl (a_load_pin rfl tk9 rfl rfl ?_) | refine aops_v rfl rfl rfl (a_load rfl tk9 rfl HP rfl ?_)
            refine aops_yes rfl rfl rfl rfl ?_
            refine aops_v rfl rfl rfl (a_len_str rfl ist9 rfl ?_)
            refine aops_yes rfl rfl rfl rfl ?_
            refine aops_v rfl rfl rfl (a_int rfl rfl rfl rfl ?_)
            refine aops_v rfl rfl rfl (a_pick rfl rfl rfl ?_)
            refine aops_v rfl rfl rfl (a_move rfl rfl ?_)
            refine aops_bool (fun h16 => ?_) (fun h16 => ?_)
            · try simp only [zz1, zz2, ne_eq, zz4, zz5, zz6, gt_iff_lt, ge_iff_le, zz9, zz0] at h16
              obtain ⟨y, hy⟩ : ∃ y, s[i + 1]? = some y := ⟨_, List.getElem?_eq_getElem (by omega)⟩
              refine aops_yes rfl rfl rfl rfl ?_
              refine aops_v rfl rfl rfl (a_move rfl rfl ?_)
              refine aops_yes rfl rfl rfl rfl ?_
              first | refine aops_v rfl rfl rfl (a_nilCheck rfl rfl ?_) | refine aops_v rfl rfl rfl (a_nilCheck_pin rfl rfl ?_) | refine aops_v rfl rfl rfl (a_nilCheck_clo rfl rfl ?_)
              refine aops_yes rfl rfl rfl rfl ?_
              first | refine aops_v rfl rfl rfl (a_fieldAddr rfl fk57_0 rfl rfl ?_) | refine aops_v rfl rfl rfl (a_fieldAddr_pin rfl fk57_0 rfl rfl ?_)
              refine aops_yes rfl rfl rfl rfl ?_
              first | refine aops_v rfl rfl rfl (a_load_pin rfl tk9 rfl rfl ?_) | refine aops_v rfl rfl rfl (a_load rfl tk9 rfl HP rfl ?_)
              refine aops_yes rfl rfl rfl rfl ?_
              refine aops_v rfl rfl rfl (a_move rfl rfl ?_)
              refine aops_yes rfl rfl rfl rfl ?_
              first | refine aops_v rfl rfl rfl (a_add rfl rfl rfl (by simp only [Go.AL.lo, Go.AL.hi]; omega) ?_) | refine aops_v rfl rfl rfl (a_int rfl rfl rfl rfl ?_)
              refine aops_yes rfl rfl rfl rfl ?_
              refine aops_v rfl rfl rfl (a_move rfl rfl ?_)
              refine aops_yes rfl rfl rfl rfl ?_
              first | refine aops_v rfl rfl rfl (a_add rfl rfl rfl (by simp only [Go.AL.lo, Go.AL.hi]; omega) ?_) | refine aops_v rfl rfl rfl (a_int rfl rfl rfl rfl ?_)
              refine aops_yes rfl rfl rfl rfl ?_
              refine aops_v rfl rfl rfl (a_slice_mid rfl ist9 rfl rfl NT rfl NT (by omega) (by omega) (by omega) ?_)
              rw [show (s.drop (i + 1)).take (i + 2 - (i + 1)) = [y] by rw [drop_cons hy]; simp]
              refine aops_yes rfl rfl rfl rfl ?_
              refine aops_call_eq rfl rfl rfl rfl cf72 rfl (contains_spec _ _ (by simp) _) ?_
              rw [contains3]
              refine aops_v rfl rfl rfl (a_pick rfl rfl rfl ?_)
              refine aops_v rfl rfl rfl (a_assign rfl rfl ?_)
              refine aops_nil ?_
              refine thenE_n ?_
              refine awp_cond rfl (fun h17 => ?_) (fun h17 => ?_)
              · try simp only [zz1, zz2, ne_eq, zz4, zz5, zz6, gt_iff_lt, ge_iff_le, zz9, zz0] at h17
                have hyy : y = 34 ∨ y = 92 ∨ y = 110 := by simpa using h17
                refine awp_seq ?_
                refine awp_region ?_
                refine aops_v rfl rfl rfl (a_move rfl rfl ?_)
                first | refine aops_v rfl rfl rfl (a_add rfl rfl rfl (by simp only [Go.AL.lo, Go.AL.hi]; omega) ?_) | refine aops_v rfl rfl rfl (a_int rfl rfl rfl rfl ?_)
                refine aops_v rfl rfl rfl (a_assign rfl rfl ?_)
                refine aops_nil ?_
                refine thenE_n ?_
                refine awp_seq ?_
                refine awp_region ?_
                refine aops_v rfl rfl rfl (a_move rfl rfl ?_)
                first | refine aops_v rfl rfl rfl (a_nilCheck rfl rfl ?_) | refine aops_v rfl rfl rfl (a_nilCheck_pin rfl rfl ?_) | refine aops_v rfl rfl rfl (a_nilCheck_clo rfl rfl ?_)
                first | refine aops_v rfl rfl rfl (a_fieldAddr rfl fk57_0 rfl rfl ?_) | refine aops_v rfl rfl rfl (a_fieldAddr_pin rfl fk57_0 rfl rfl ?_)
                first | refine aops_v rfl rfl rfl (a_load_pin rfl tk9 rfl rfl ?_) | refine aops_v rfl rfl rfl (a_load rfl tk9 rfl HP rfl ?_)
                refine aops_v rfl rfl rfl (a_move rfl rfl ?_)
                refine aops_v rfl rfl rfl (a_index_str rfl ist9 rfl rfl (tnA1 _) (by omega) hy ?_)
                refine aops_v rfl rfl rfl (a_int rfl rfl rfl rfl ?_)
                refine aops_nil ?_
                refine thenE_n ?_
                refine awp_cond rfl (fun h18 => ?_) (fun h18 => ?_)
                · try simp only [zz1, zz2, ne_eq, zz4, zz5, zz6, gt_iff_lt, ge_iff_le, zz9, zz0] at h18
                  have hy110 : y = 110 := u8k (n := 110) (c := 110) h18 rfl
                  subst hy110
                  refine awp_region ?_
                  refine aops_v rfl rfl rfl (a_move rfl rfl ?_)
                  refine aops_v rfl rfl rfl (a_buildSlice (res := [_]) rfl sk103 rfl rfl rfl ?_)
                  refine aops_v rfl rfl rfl (a_append_sl rfl sk103 rfl (by first | rfl | (simp; done)) rfl (by first | exact .lst (by first | rfl | (simp; done) | (simp; omega)) | exact .nil | exact .arr HP (by first | rfl | simp | (simp; omega)) | exact Src.sl (by simp)) (by first | rfl | (simp [AV.one, Value.oneCell']; done)) (by first | omega | (simp; omega)) (by simp only [maxLen]; first | omega | (simp; omega)) (by first | assumption | (rw [upd_ne _ _ (by assumption)]; assumption)) ?_)
                  intro id88 ver88 hid88
                  obtain ⟨hneA, hidA⟩ := ne_of_upd hid88
                  have eA1 : b.map byteA ++ [AV.v (.int .u8 10)] = (b ++ [10]).map byteA := by simp
                  have eA2 : b.length + 1 = (b ++ [10]).length := by simp
                  rw [eA1, eA2]
                  have hneB : id88 ≠ p := fun e => hneA e.symm
                  refine aops_v rfl rfl rfl (a_assign rfl rfl ?_)
                  refine aops_nil ?_
                  refine blockE_n ?_
                  refine blockE_n ?_
                  refine thenE_n ?_
                  refine awp_region ?_
                  refine aops_v rfl rfl rfl (a_move rfl rfl ?_)
                  first | refine aops_v rfl rfl rfl (a_add rfl rfl rfl (by simp only [Go.AL.lo, Go.AL.hi]; omega) ?_) | refine aops_v rfl rfl rfl (a_int rfl rfl rfl rfl ?_)
                  refine aops_v rfl rfl rfl (a_assign rfl rfl ?_)
                  refine aops_nil ?_
                  refine thenE_n ?_
                  exact .done ⟨(i + 2, b ++ [10], bd2, id88, ver88), ⟨by first | omega | (simp; omega), by rw [← ht, txt_escn h92 hy], by first | omega | (simp; omega), by assumption, by assumption⟩, by first | omega | (dsimp only; omega), EL, by first | rfl | simp [stv, scn, AV.cells]⟩
                · try simp only [zz1, zz2, ne_eq, zz4, zz5, zz6, gt_iff_lt, ge_iff_le, zz9, zz0] at h18
                  have hy110 : ¬ y = 110 := fun e => h18 (by subst e; rfl)
                  refine awp_region ?_
                  refine aops_v rfl rfl rfl (a_move rfl rfl ?_)
                  refine aops_v rfl rfl rfl (a_move rfl rfl ?_)
                  first | refine aops_v rfl rfl rfl (a_nilCheck rfl rfl ?_) | refine aops_v rfl rfl rfl (a_nilCheck_pin rfl rfl ?_) | refine aops_v rfl rfl rfl (a_nilCheck_clo rfl rfl ?_)
                  first | refine aops_v rfl rfl rfl (a_fieldAddr rfl fk57_0 rfl rfl ?_) | refine aops_v rfl rfl rfl (a_fieldAddr_pin rfl fk57_0 rfl rfl ?_)
                  first | refine aops_v rfl rfl rfl (a_load_pin rfl tk9 rfl rfl ?_) | refine aops_v rfl rfl rfl (a_load rfl tk9 rfl HP rfl ?_)
                  refine aops_v rfl rfl rfl (a_move rfl rfl ?_)
                  refine aops_v rfl rfl rfl (a_index_str rfl ist9 rfl rfl (tnA1 _) (by omega) hy ?_)
                  refine aops_v rfl rfl rfl (a_buildSlice (res := [_]) rfl sk103 rfl rfl rfl ?_)
                  refine aops_v rfl rfl rfl (a_append_sl rfl sk103 rfl (by first | rfl | (simp; done)) rfl (by first | exact .lst (by first | rfl | (simp; done) | (simp; omega)) | exact .nil | exact .arr HP (by first | rfl | simp | (simp; omega)) | exact Src.sl (by simp)) (by first | rfl | (simp [AV.one, Value.oneCell']; done)) (by first | omega | (simp; omega)) (by simp only [maxLen]; first | omega | (simp; omega)) (by first | assumption | (rw [upd_ne _ _ (by assumption)]; assumption)) ?_)
                  intro id97 ver97 hid97
                  obtain ⟨hneA, hidA⟩ := ne_of_upd hid97
                  have eA1 : b.map byteA ++ [byteA y] = (b ++ [y]).map byteA := by simp
                  have eA2 : b.length + 1 = (b ++ [y]).length := by simp
                  rw [eA1, eA2]
                  have hneB : id97 ≠ p := fun e => hneA e.symm
                  refine aops_v rfl rfl rfl (a_assign rfl rfl ?_)
                  refine aops_nil ?_
                  refine blockE_n ?_
                  refine blockE_n ?_
                  refine thenE_n ?_
                  refine awp_region ?_
                  refine aops_v rfl rfl rfl (a_move rfl rfl ?_)
                  first | refine aops_v rfl rfl rfl (a_add rfl rfl rfl (by simp only [Go.AL.lo, Go.AL.hi]; omega) ?_) | refine aops_v rfl rfl rfl (a_int rfl rfl rfl rfl ?_)
                  refine aops_v rfl rfl rfl (a_assign rfl rfl ?_)
                  refine aops_nil ?_
                  refine thenE_n ?_
                  exact .done ⟨(i + 2, b ++ [y], bd2, id97, ver97), ⟨by first | omega | (simp; omega), by rw [← ht, txt_esc h92 hy hyy, if_neg hy110], by first | omega | (simp; omega), by assumption, by assumption⟩, by first | omega | (dsimp only; omega), EL, by first | rfl | simp [stv, scn, AV.cells]⟩
              · try simp only [zz1, zz2, ne_eq, zz4, zz5, zz6, gt_iff_lt, ge_iff_le, zz9, zz0] at h17
                have hyn : ¬ (y = 34 ∨ y = 92 ∨ y = 110) := by simpa using h17
                refine awp_seq ?_
                refine awp_region ?_
                refine aops_v rfl rfl rfl (a_move rfl rfl ?_)
                refine aops_v rfl rfl rfl (a_int rfl rfl rfl rfl ?_)
                refine aops_v rfl rfl rfl (a_assign rfl rfl ?_)
                refine aops_nil ?_
                refine thenE_n ?_
                refine awp_cond rfl (fun h19 => ?_) (fun h19 => ?_)
                · try simp only [zz1, zz2, ne_eq, zz4, zz5, zz6, gt_iff_lt, ge_iff_le, zz9, zz0] at h19
                  refine awp_region ?_
                  refine aops_v rfl rfl rfl (a_move rfl rfl ?_)
                  first | refine aops_v rfl rfl rfl (a_nilCheck rfl rfl ?_) | refine aops_v rfl rfl rfl (a_nilCheck_pin rfl rfl ?_) | refine aops_v rfl rfl rfl (a_nilCheck_clo rfl rfl ?_)
                  first | refine aops_v rfl rfl rfl (a_fieldAddr rfl fk57_1 rfl rfl ?_) | refine aops_v rfl rfl rfl (a_fieldAddr_pin rfl fk57_1 rfl rfl ?_)
                  first | refine aops_s rfl rfl (a_store_n (cs2 := [_, _]) rfl tk4 rfl rfl HP rfl rfl (by first | decide | (simp; done) | (simp; omega)) rfl ?_) | refine aops_s rfl rfl (a_store rfl tk4 rfl rfl HP rfl rfl (by first | decide | (simp [stv, AV.cells]; done) | (simp [stv, AV.cells]; omega)) ?_)
                  rw [slh_upd _ _ _ _ hne, upd_upd]
                  refine aops_nil ?_
                  refine blockE_n ?_
                  refine blockE_n ?_
                  refine thenE_n ?_
                  refine awp_region ?_
                  refine aops_v rfl rfl rfl (a_move rfl rfl ?_)
                  first | refine aops_v rfl rfl rfl (a_add rfl rfl rfl (by simp only [Go.AL.lo, Go.AL.hi]; omega) ?_) | refine aops_v rfl rfl rfl (a_int rfl rfl rfl rfl ?_)
                  refine aops_v rfl rfl rfl (a_assign rfl rfl ?_)
                  refine aops_nil ?_
                  refine thenE_n ?_
                  exact .done ⟨(i + 1, b, true, id, ver), ⟨by first | omega | (simp; omega), by rw [← ht, txt_bad1 h92 hy hyn], by first | omega | (simp; omega), by assumption, by assumption⟩, by first | omega | (dsimp only; omega), EL, by first | rfl | simp [stv, scn, AV.cells]⟩
                · try simp only [zz1, zz2, ne_eq, zz4, zz5, zz6, gt_iff_lt, ge_iff_le, zz9, zz0] at h19
                  exact absurd (by rw [hx] at h92; simp at h92; rw [h92]; rfl) h19
            · try simp only [zz1, zz2, ne_eq, zz4, zz5, zz6, gt_iff_lt, ge_iff_le, zz9, zz0] at h16
              refine aops_no rfl rfl rfl rfl rfl rfl ?_
              refine aops_no rfl rfl rfl rfl rfl rfl ?_
              refine aops_no rfl rfl rfl rfl rfl rfl ?_
              refine aops_no rfl rfl rfl rfl rfl rfl ?_
              refine aops_no rfl rfl rfl rfl rfl rfl ?_
              refine aops_no rfl rfl rfl rfl rfl rfl ?_
              refine aops_no rfl rfl rfl rfl rfl rfl ?_
              refine aops_no rfl rfl rfl rfl rfl rfl ?_
              refine aops_no rfl rfl rfl rfl rfl rfl ?_
              refine aops_no rfl rfl rfl rfl rfl rfl ?_
              refine aops_v rfl rfl rfl (a_pick rfl rfl rfl ?_)
              refine aops_v rfl rfl rfl (a_assign rfl rfl ?_)
              refine aops_nil ?_
              refine thenE_n ?_
              refine awp_cond (b := false) rfl (fun h => Bool.noConfusion h) (fun _ => ?_)
              refine awp_seq ?_
              refine awp_region ?_
              refine aops_v rfl rfl rfl (a_move rfl rfl ?_)
              refine aops_v rfl rfl rfl (a_int rfl rfl rfl rfl ?_)
              refine aops_v rfl rfl rfl (a_assign rfl rfl ?_)
              refine aops_nil ?_
              refine thenE_n ?_
              refine awp_cond rfl (fun h20 => ?_) (fun h20 => ?_)
              · try simp only [zz1, zz2, ne_eq, zz4, zz5, zz6, gt_iff_lt, ge_iff_le, zz9, zz0] at h20
                refine awp_region ?_
                refine aops_v rfl rfl rfl (a_move rfl rfl ?_)
                first | refine aops_v rfl rfl rfl (a_nilCheck rfl rfl ?_) | refine aops_v rfl rfl rfl (a_nilCheck_pin rfl rfl ?_) | refine aops_v rfl rfl rfl (a_nilCheck_clo rfl rfl ?_)
                first | refine aops_v rfl rfl rfl (a_fieldAddr rfl fk57_1 rfl rfl ?_) | refine aops_v rfl rfl rfl (a_fieldAddr_pin rfl fk57_1 rfl rfl ?_)
                first | refine aops_s rfl rfl (a_store_n (cs2 := [_, _]) rfl tk4 rfl rfl HP rfl rfl (by first | decide | (simp; done) | (simp; omega)) rfl ?_) | refine aops_s rfl rfl (a_store rfl tk4 rfl rfl HP rfl rfl (by first | decide | (simp [stv, AV.cells]; done) | (simp [stv, AV.cells]; omega)) ?_)
                rw [slh_upd _ _ _ _ hne, upd_upd]
                refine aops_nil ?_
                refine blockE_n ?_
                refine blockE_n ?_
                refine thenE_n ?_
                refine awp_region ?_
                refine aops_v rfl rfl rfl (a_move rfl rfl ?_)
                first | refine aops_v rfl rfl rfl (a_add rfl rfl rfl (by simp only [Go.AL.lo, Go.AL.hi]; omega) ?_) | refine aops_v rfl rfl rfl (a_int rfl rfl rfl rfl ?_)
                refine aops_v rfl rfl rfl (a_assign rfl rfl ?_)
                refine aops_nil ?_
                refine thenE_n ?_
                exact .done ⟨(i + 1, b, true, id, ver), ⟨by first | omega | (simp; omega), by rw [← ht, txt_bad0 h92 (by omega)], by first | omega | (simp; omega), by assumption, by assumption⟩, by first | omega | (dsimp only; omega), EL, by first | rfl | simp [stv, scn, AV.cells]⟩
              · try simp only [zz1, zz2, ne_eq, zz4, zz5, zz6, gt_iff_lt, ge_iff_le, zz9, zz0] at h20
                exact absurd (by rw [hx] at h92; simp at h92; rw [h92]; rfl) h20
          · try simp only [zz1, zz2, ne_eq, zz4, zz5, zz6, gt_iff_lt, ge_iff_le, zz9, zz0] at h15
            have hx3 : ¬ x = 92 := fun e => h15 (by subst e; rfl)
            refine aops_no rfl rfl rfl rfl rfl rfl ?_
            refine aops_no rfl rfl rfl rfl rfl rfl ?_
            refine aops_no rfl rfl rfl rfl rfl rfl ?_
            refine aops_no rfl rfl rfl rfl rfl rfl ?_
            refine aops_no rfl rfl rfl rfl rfl rfl ?_
            refine aops_no rfl rfl rfl rfl rfl rfl ?_
            refine aops_no rfl rfl rfl rfl rfl rfl ?_
            refine aops_no rfl rfl rfl rfl rfl rfl ?_
            refine aops_v rfl rfl rfl (a_pick rfl rfl rfl ?_)
            refine aops_v rfl rfl rfl (a_move rfl rfl ?_)
            refine aops_no rfl rfl rfl rfl rfl rfl ?_
            refine aops_no rfl rfl rfl rfl rfl rfl ?_
            refine aops_no rfl rfl rfl rfl rfl rfl ?_
            refine aops_no rfl rfl rfl rfl rfl rfl ?_
            refine aops_no rfl rfl rfl rfl rfl rfl ?_
            refine aops_no rfl rfl rfl rfl rfl rfl ?_
            refine aops_no rfl rfl rfl rfl rfl rfl ?_
            refine aops_no rfl rfl rfl rfl rfl rfl ?_
            refine aops_no rfl rfl rfl rfl rfl rfl ?_
            refine aops_no rfl rfl rfl rfl rfl rfl ?_
            refine aops_v rfl rfl rfl (a_pick rfl rfl rfl ?_)
            refine aops_v rfl rfl rfl (a_assign rfl rfl ?_)
            refine aops_nil ?_
            refine thenE_n ?_
            refine awp_cond (b := false) rfl (fun h => Bool.noConfusion h) (fun _ => ?_)
            refine awp_seq ?_
            refine awp_region ?_
            refine aops_v rfl rfl rfl (a_move rfl rfl ?_)
            refine aops_v rfl rfl rfl (a_int rfl rfl rfl rfl ?_)
            refine aops_v rfl rfl rfl (a_assign rfl rfl ?_)
            refine aops_nil ?_
            refine thenE_n ?_
            refine awp_cond rfl (fun h21 => ?_) (fun h21 => ?_)
            · try simp only [zz1, zz2, ne_eq, zz4, zz5, zz6, gt_iff_lt, ge_iff_le, zz9, zz0] at h21
              exact absurd (u8k (n := 92) (c := 92) h21 rfl) hx3
            · try simp only [zz1, zz2, ne_eq, zz4, zz5, zz6, gt_iff_lt, ge_iff_le, zz9, zz0] at h21
              refine awp_region ?_
              refine aops_v rfl rfl rfl (a_move rfl rfl ?_)
              refine aops_v rfl rfl rfl (a_move rfl rfl ?_)
              refine aops_v rfl rfl rfl (a_buildSlice (res := [_]) rfl sk103 rfl rfl rfl ?_)
              refine aops_v rfl rfl rfl (a_append_sl rfl sk103 rfl (by first | rfl | (simp; done)) rfl (by first | exact .lst (by first | rfl | (simp; done) | (simp; omega)) | exact .nil | exact .arr HP (by first | rfl | simp | (simp; omega)) | exact Src.sl (by simp)) (by first | rfl | (simp [AV.one, Value.oneCell']; done)) (by first | omega | (simp; omega)) (by simp only [maxLen]; first | omega | (simp; omega)) (by first | assumption | (rw [upd_ne _ _ (by assumption)]; assumption)) ?_)
              intro id30 ver30 hid30
              obtain ⟨hneA, hidA⟩ := ne_of_upd hid30
              have eA1 : b.map byteA ++ [byteA x] = (b ++ [x]).map byteA := by simp
              have eA2 : b.length + 1 = (b ++ [x]).length := by simp
              rw [eA1, eA2]
              have hneB : id30 ≠ p := fun e => hneA e.symm
              refine aops_v rfl rfl rfl (a_assign rfl rfl ?_)
              refine aops_nil ?_
              refine blockE_n ?_
              refine blockE_n ?_
              refine thenE_n ?_
              refine awp_region ?_
              refine aops_v rfl rfl rfl (a_move rfl rfl ?_)
              first | refine aops_v rfl rfl rfl (a_add rfl rfl rfl (by simp only [Go.AL.lo, Go.AL.hi]; omega) ?_) | refine aops_v rfl rfl rfl (a_int rfl rfl rfl rfl ?_)
              refine aops_v rfl rfl rfl (a_assign rfl rfl ?_)
              refine aops_nil ?_
              refine thenE_n ?_
              exact .done ⟨(i + 1, b ++ [x], bd2, id30, ver30), ⟨by first | omega | (simp; omega), by rw [← ht, txt_ch hx hx1 hx2 hx3], by first | omega | (simp; omega), by assumption, by assumption⟩, by first | omega | (dsimp only; omega), EL, by first | rfl | simp [stv, scn, AV.cells]⟩
    · try simp only [zz1, zz2, ne_eq, zz4, zz5, zz6, gt_iff_lt, ge_iff_le, zz9, zz0] at h12
      refine awp_exit ?_
      refine thenE_x ?_
      refine thenE_x ?_
      refine blockE_x ?_
      refine thenE_n ?_
      refine awp_seq ?_
      refine awp_region ?_
      refine aops_v rfl rfl rfl (a_move rfl rfl ?_)
      first | refine aops_v rfl rfl rfl (a_nilCheck rfl rfl ?_) | refine aops_v rfl rfl rfl (a_nilCheck_pin rfl rfl ?_) | refine aops_v rfl rfl rfl (a_nilCheck_clo rfl rfl ?_)
      first | refine aops_v rfl rfl rfl (a_fieldAddr rfl fk57_1 rfl rfl ?_) | refine aops_v rfl rfl rfl (a_fieldAddr_pin rfl fk57_1 rfl rfl ?_)
      first | refine aops_s rfl rfl (a_store_n (cs2 := [_, _]) rfl tk4 rfl rfl HP rfl rfl (by first | decide | (simp; done) | (simp; omega)) rfl ?_) | refine aops_s rfl rfl (a_store rfl tk4 rfl rfl HP rfl rfl (by first | decide | (simp [stv, AV.cells]; done) | (simp [stv, AV.cells]; omega)) ?_)
      rw [slh_upd _ _ _ _ hne, upd_upd]
      refine aops_nil ?_
      refine thenE_n ?_
      refine awp_seq ?_
      refine awp_region ?_
      refine aops_v rfl rfl rfl (a_move rfl rfl ?_)
      first | refine aops_v rfl rfl rfl (a_nilCheck rfl rfl ?_) | refine aops_v rfl rfl rfl (a_nilCheck_pin rfl rfl ?_) | refine aops_v rfl rfl rfl (a_nilCheck_clo rfl rfl ?_)
      first | refine aops_v rfl rfl rfl (a_fieldAddr rfl fk57_0 rfl rfl ?_) | refine aops_v rfl rfl rfl (a_fieldAddr_pin rfl fk57_0 rfl rfl ?_)
      first | refine aops_s rfl rfl (a_store_n (cs2 := [_, _]) rfl tk9 rfl rfl HP rfl rfl (by first | decide | (simp; done) | (simp; omega)) rfl ?_) | refine aops_s rfl rfl (a_store rfl tk9 rfl rfl HP rfl rfl (by first | decide | (simp [stv, AV.cells]; done) | (simp [stv, AV.cells]; omega)) ?_)
      rw [slh_upd _ _ _ _ hne, upd_upd]
      refine aops_nil ?_
      refine thenE_n ?_
      refine awp_seq ?_
      refine awp_region ?_
      refine aops_v rfl rfl rfl (a_assign rfl rfl ?_)
      refine aops_nil ?_
      refine thenE_n ?_
      refine awp_ret ?_
      change Gst _ _ _ _
      refine gst_sl_del (by rw [upd_ne _ _ hne2]; exact hid) ?_
      refine fin1 rfl ?_
      exact ⟨by rw [← ht, txt_end (by omega)], by rw [← ht, txt_end (by omega)]; rfl⟩

end Go.Proofs.YtnahdpjbddfhgaaGreatDoor
