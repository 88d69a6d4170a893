/-
  Facts of the program's types, printed by a program of this session (wip/tools). Values, operands, predicates, tables and schemas as data. Contracts: the case generator's first functions.
-/
import Derived.Test.YtfdekggfdklfeaaProg
import Derived.KernelRfl
import Derived.Test.YtfdekggfdklfeaaS1
set_option linter.all false
set_option linter.unusedVariables false
set_option linter.unusedSimpArgs false
namespace Go.Proofs.Ytfdekggfdklfeaa
open Go.Ab
@[go_sem] theorem s_ag2 : isAg Try.prog 2 = false := by kernel_rfl
@[go_sem] theorem s_sz2 : szOf Try.prog 2 = 1 := by kernel_rfl
@[go_sem] theorem s_ag3 : isAg Try.prog 3 = false := by kernel_rfl
@[go_sem] theorem s_sz3 : szOf Try.prog 3 = 1 := by kernel_rfl
@[go_sem] theorem s_ag4 : isAg Try.prog 4 = false := by kernel_rfl
@[go_sem] theorem s_sz4 : szOf Try.prog 4 = 1 := by kernel_rfl
@[go_sem] theorem s_ag5 : isAg Try.prog 5 = false := by kernel_rfl
@[go_sem] theorem s_sz5 : szOf Try.prog 5 = 1 := by kernel_rfl
@[go_sem] theorem s_ag9 : isAg Try.prog 9 = false := by kernel_rfl
@[go_sem] theorem s_sz9 : szOf Try.prog 9 = 1 := by kernel_rfl
@[go_sem] theorem s_ag22 : isAg Try.prog 22 = false := by kernel_rfl
@[go_sem] theorem s_sz22 : szOf Try.prog 22 = 1 := by kernel_rfl
@[go_sem] theorem s_ag23 : isAg Try.prog 23 = false := by kernel_rfl
@[go_sem] theorem s_sz23 : szOf Try.prog 23 = 1 := by kernel_rfl
@[go_sem] theorem s_ag25 : isAg Try.prog 25 = true := by kernel_rfl
@[go_sem] theorem s_sz25 : szOf Try.prog 25 = 2 := by kernel_rfl
@[go_sem] theorem s_ag30 : isAg Try.prog 30 = true := by kernel_rfl
@[go_sem] theorem s_sz30 : szOf Try.prog 30 = 2 := by kernel_rfl
@[go_sem] theorem s_ag31 : isAg Try.prog 31 = false := by kernel_rfl
@[go_sem] theorem s_sz31 : szOf Try.prog 31 = 1 := by kernel_rfl
@[go_sem] theorem s_ag32 : isAg Try.prog 32 = false := by kernel_rfl
@[go_sem] theorem s_sz32 : szOf Try.prog 32 = 1 := by kernel_rfl
@[go_sem] theorem s_ag33 : isAg Try.prog 33 = false := by kernel_rfl
@[go_sem] theorem s_sz33 : szOf Try.prog 33 = 1 := by kernel_rfl
@[go_sem] theorem s_ag35 : isAg Try.prog 35 = true := by kernel_rfl
@[go_sem] theorem s_sz35 : szOf Try.prog 35 = 5 := by kernel_rfl
@[go_sem] theorem s_ag43 : isAg Try.prog 43 = false := by kernel_rfl
@[go_sem] theorem s_sz43 : szOf Try.prog 43 = 1 := by kernel_rfl
@[go_sem] theorem s_ag46 : isAg Try.prog 46 = false := by kernel_rfl
@[go_sem] theorem s_sz46 : szOf Try.prog 46 = 1 := by kernel_rfl
@[go_sem] theorem s_ag51 : isAg Try.prog 51 = true := by kernel_rfl
@[go_sem] theorem s_sz51 : szOf Try.prog 51 = 2 := by kernel_rfl
@[go_sem] theorem s_ag60 : isAg Try.prog 60 = true := by kernel_rfl
@[go_sem] theorem s_sz60 : szOf Try.prog 60 = 2 := by kernel_rfl
@[go_sem] theorem s_ag62 : isAg Try.prog 62 = true := by kernel_rfl
@[go_sem] theorem s_sz62 : szOf Try.prog 62 = 3 := by kernel_rfl
@[go_sem] theorem s_ag65 : isAg Try.prog 65 = true := by kernel_rfl
@[go_sem] theorem s_sz65 : szOf Try.prog 65 = 5 := by kernel_rfl
@[go_sem] theorem s_ag67 : isAg Try.prog 67 = true := by kernel_rfl
@[go_sem] theorem s_sz67 : szOf Try.prog 67 = 13 := by kernel_rfl
@[go_sem] theorem s_ze3 : zeroC Try.prog 3 = some [.int .i64 0] := by kernel_rfl
@[go_sem] theorem s_ze4 : zeroC Try.prog 4 = some [.bool false] := by kernel_rfl
@[go_sem] theorem s_ze9 : zeroC Try.prog 9 = some [.str ⟨#[]⟩] := by kernel_rfl
@[go_sem] theorem s_ze25 : zeroC Try.prog 25 = some [.int .i64 0, .snil] := by kernel_rfl
@[go_sem] theorem s_ze30 : zeroC Try.prog 30 = some [.str ⟨#[]⟩, .int .i64 0] := by kernel_rfl
@[go_sem] theorem s_ze35 : zeroC Try.prog 35 = some [.str ⟨#[]⟩, .snil, .int .i64 0, .snil, .snil] := by kernel_rfl
@[go_sem] theorem s_ze43 : zeroC Try.prog 43 = some [.snil] := by kernel_rfl
@[go_sem] theorem s_ze46 : zeroC Try.prog 46 = some [.snil] := by kernel_rfl
@[go_sem] theorem s_ze51 : zeroC Try.prog 51 = some [.snil, .int .i64 0] := by kernel_rfl
@[go_sem] theorem s_ze60 : zeroC Try.prog 60 = some [.snil, .int .i64 0] := by kernel_rfl
@[go_sem] theorem s_ze62 : zeroC Try.prog 62 = some [.int .i64 0, .int .i64 0, .str ⟨#[]⟩] := by kernel_rfl
@[go_sem] theorem s_ze65 : zeroC Try.prog 65 = some [.int .i64 0, .int .i64 0, .int .i64 0, .int .i64 0, .str ⟨#[]⟩] := by kernel_rfl
@[go_sem] theorem s_ze67 : zeroC Try.prog 67 = some [.int .i64 0, .int .i64 0, .int .i64 0, .int .i64 0, .int .i64 0, .int .i64 0, .str ⟨#[]⟩, .int .i64 0, .int .i64 0, .int .i64 0, .int .i64 0, .str ⟨#[]⟩, .snil] := by kernel_rfl
@[go_sem] theorem s_sl3 : slElem Try.prog 3 = none := by kernel_rfl
@[go_sem] theorem s_ar3 : arElem Try.prog 3 = none := by kernel_rfl
@[go_sem] theorem s_sl9 : slElem Try.prog 9 = none := by kernel_rfl
@[go_sem] theorem s_ar9 : arElem Try.prog 9 = none := by kernel_rfl
@[go_sem] theorem s_sl22 : slElem Try.prog 22 = some (5, 1, 1) := by kernel_rfl
@[go_sem] theorem s_ar22 : arElem Try.prog 22 = none := by kernel_rfl
@[go_sem] theorem s_sl23 : slElem Try.prog 23 = some (35, 5, 96) := by kernel_rfl
@[go_sem] theorem s_ar23 : arElem Try.prog 23 = none := by kernel_rfl
@[go_sem] theorem s_sl25 : slElem Try.prog 25 = none := by kernel_rfl
@[go_sem] theorem s_ar25 : arElem Try.prog 25 = none := by kernel_rfl
@[go_sem] theorem s_sl30 : slElem Try.prog 30 = none := by kernel_rfl
@[go_sem] theorem s_ar30 : arElem Try.prog 30 = none := by kernel_rfl
@[go_sem] theorem s_sl31 : slElem Try.prog 31 = some (30, 2, 24) := by kernel_rfl
@[go_sem] theorem s_ar31 : arElem Try.prog 31 = none := by kernel_rfl
@[go_sem] theorem s_sl32 : slElem Try.prog 32 = some (51, 2, 32) := by kernel_rfl
@[go_sem] theorem s_ar32 : arElem Try.prog 32 = none := by kernel_rfl
@[go_sem] theorem s_sl33 : slElem Try.prog 33 = some (67, 13, 136) := by kernel_rfl
@[go_sem] theorem s_ar33 : arElem Try.prog 33 = none := by kernel_rfl
@[go_sem] theorem s_sl35 : slElem Try.prog 35 = none := by kernel_rfl
@[go_sem] theorem s_ar35 : arElem Try.prog 35 = none := by kernel_rfl
@[go_sem] theorem s_sl43 : slElem Try.prog 43 = some (62, 3, 32) := by kernel_rfl
@[go_sem] theorem s_ar43 : arElem Try.prog 43 = none := by kernel_rfl
@[go_sem] theorem s_sl46 : slElem Try.prog 46 = some (3, 1, 8) := by kernel_rfl
@[go_sem] theorem s_ar46 : arElem Try.prog 46 = none := by kernel_rfl
@[go_sem] theorem s_sl48 : slElem Try.prog 48 = some (43, 1, 24) := by kernel_rfl
@[go_sem] theorem s_ar48 : arElem Try.prog 48 = none := by kernel_rfl
@[go_sem] theorem s_sl51 : slElem Try.prog 51 = none := by kernel_rfl
@[go_sem] theorem s_ar51 : arElem Try.prog 51 = none := by kernel_rfl
@[go_sem] theorem s_sl55 : slElem Try.prog 55 = some (25, 2, 32) := by kernel_rfl
@[go_sem] theorem s_ar55 : arElem Try.prog 55 = none := by kernel_rfl
@[go_sem] theorem s_sl60 : slElem Try.prog 60 = none := by kernel_rfl
@[go_sem] theorem s_ar60 : arElem Try.prog 60 = none := by kernel_rfl
@[go_sem] theorem s_sl62 : slElem Try.prog 62 = none := by kernel_rfl
@[go_sem] theorem s_ar62 : arElem Try.prog 62 = none := by kernel_rfl
@[go_sem] theorem s_sl65 : slElem Try.prog 65 = none := by kernel_rfl
@[go_sem] theorem s_ar65 : arElem Try.prog 65 = none := by kernel_rfl
@[go_sem] theorem s_sl67 : slElem Try.prog 67 = none := by kernel_rfl
@[go_sem] theorem s_ar67 : arElem Try.prog 67 = none := by kernel_rfl
@[go_sem] theorem s_sl77 : slElem Try.prog 77 = some (9, 1, 16) := by kernel_rfl
@[go_sem] theorem s_ar77 : arElem Try.prog 77 = none := by kernel_rfl
@[go_sem] theorem s_sl82 : slElem Try.prog 82 = some (46, 1, 24) := by kernel_rfl
@[go_sem] theorem s_ar82 : arElem Try.prog 82 = none := by kernel_rfl
@[go_sem] theorem s_sl95 : slElem Try.prog 95 = some (65, 5, 48) := by kernel_rfl
@[go_sem] theorem s_ar95 : arElem Try.prog 95 = none := by kernel_rfl
@[go_sem] theorem s_sh3 : shapeOf Try.prog 3 = .other := by kernel_rfl
@[go_sem] theorem s_sh5 : shapeOf Try.prog 5 = .other := by kernel_rfl
@[go_sem] theorem s_sh9 : shapeOf Try.prog 9 = .str := by kernel_rfl
@[go_sem] theorem s_sh21 : shapeOf Try.prog 21 = .other := by kernel_rfl
@[go_sem] theorem s_sh22 : shapeOf Try.prog 22 = .slice := by kernel_rfl
@[go_sem] theorem s_sh23 : shapeOf Try.prog 23 = .slice := by kernel_rfl
@[go_sem] theorem s_sh31 : shapeOf Try.prog 31 = .slice := by kernel_rfl
@[go_sem] theorem s_sh32 : shapeOf Try.prog 32 = .slice := by kernel_rfl
@[go_sem] theorem s_sh33 : shapeOf Try.prog 33 = .slice := by kernel_rfl
@[go_sem] theorem s_sh43 : shapeOf Try.prog 43 = .slice := by kernel_rfl
@[go_sem] theorem s_sh46 : shapeOf Try.prog 46 = .slice := by kernel_rfl
@[go_sem] theorem s_sh48 : shapeOf Try.prog 48 = .slice := by kernel_rfl
@[go_sem] theorem s_sh55 : shapeOf Try.prog 55 = .slice := by kernel_rfl
@[go_sem] theorem s_sh82 : shapeOf Try.prog 82 = .slice := by kernel_rfl
@[go_sem] theorem s_sh95 : shapeOf Try.prog 95 = .slice := by kernel_rfl
@[go_sem] theorem s_fl25_0 : fld Try.prog 25 0 = some (0, 3, 1) := by kernel_rfl
@[go_sem] theorem s_fl25_1 : fld Try.prog 25 1 = some (1, 23, 1) := by kernel_rfl
@[go_sem] theorem s_fl30_0 : fld Try.prog 30 0 = some (0, 9, 1) := by kernel_rfl
@[go_sem] theorem s_fl30_1 : fld Try.prog 30 1 = some (1, 3, 1) := by kernel_rfl
@[go_sem] theorem s_fl35_0 : fld Try.prog 35 0 = some (0, 9, 1) := by kernel_rfl
@[go_sem] theorem s_fl35_1 : fld Try.prog 35 1 = some (1, 31, 1) := by kernel_rfl
@[go_sem] theorem s_fl35_2 : fld Try.prog 35 2 = some (2, 3, 1) := by kernel_rfl
@[go_sem] theorem s_fl35_3 : fld Try.prog 35 3 = some (3, 32, 1) := by kernel_rfl
@[go_sem] theorem s_fl35_4 : fld Try.prog 35 4 = some (4, 33, 1) := by kernel_rfl
@[go_sem] theorem s_fl51_0 : fld Try.prog 51 0 = some (0, 46, 1) := by kernel_rfl
@[go_sem] theorem s_fl51_1 : fld Try.prog 51 1 = some (1, 3, 1) := by kernel_rfl
@[go_sem] theorem s_fl60_0 : fld Try.prog 60 0 = some (0, 22, 1) := by kernel_rfl
@[go_sem] theorem s_fl60_1 : fld Try.prog 60 1 = some (1, 3, 1) := by kernel_rfl
@[go_sem] theorem s_fl62_0 : fld Try.prog 62 0 = some (0, 3, 1) := by kernel_rfl
@[go_sem] theorem s_fl62_1 : fld Try.prog 62 1 = some (1, 2, 1) := by kernel_rfl
@[go_sem] theorem s_fl62_2 : fld Try.prog 62 2 = some (2, 9, 1) := by kernel_rfl
@[go_sem] theorem s_fl65_0 : fld Try.prog 65 0 = some (0, 3, 1) := by kernel_rfl
@[go_sem] theorem s_fl65_1 : fld Try.prog 65 1 = some (1, 3, 1) := by kernel_rfl
@[go_sem] theorem s_fl65_2 : fld Try.prog 65 2 = some (2, 62, 3) := by kernel_rfl
@[go_sem] theorem s_fl67_0 : fld Try.prog 67 0 = some (0, 3, 1) := by kernel_rfl
@[go_sem] theorem s_fl67_1 : fld Try.prog 67 1 = some (1, 3, 1) := by kernel_rfl
@[go_sem] theorem s_fl67_2 : fld Try.prog 67 2 = some (2, 65, 5) := by kernel_rfl
@[go_sem] theorem s_fl67_3 : fld Try.prog 67 3 = some (7, 65, 5) := by kernel_rfl
@[go_sem] theorem s_fl67_4 : fld Try.prog 67 4 = some (12, 33, 1) := by kernel_rfl
@[go_sem] theorem s_mp81 : mapKV Try.prog 81 = some (9, 4) := by kernel_rfl
@[go_sem] theorem s_eq2 : eqShape Try.prog 2 = .other := by kernel_rfl
@[go_sem] theorem s_eq3 : eqShape Try.prog 3 = .other := by kernel_rfl
@[go_sem] theorem s_eq5 : eqShape Try.prog 5 = .other := by kernel_rfl
@[go_sem] theorem s_eq9 : eqShape Try.prog 9 = .other := by kernel_rfl
@[go_sem] theorem s_eq21 : eqShape Try.prog 21 = .other := by kernel_rfl
@[go_sem] theorem s_eq36 : eqShape Try.prog 36 = .other := by kernel_rfl
@[go_sem] theorem s_eq46 : eqShape Try.prog 46 = .slice := by kernel_rfl
@[go_sem] theorem s_eq62 : eqShape Try.prog 62 = .agg [.i, .i, .s] := by kernel_rfl
@[go_sem] theorem s_eq65 : eqShape Try.prog 65 = .agg [.i, .i, .i, .i, .s] := by kernel_rfl
@[go_sem] theorem s_ky9 : keyK Try.prog 9 = some .s := by kernel_rfl
@[go_sem] theorem s_cv3_21 : convShape Try.prog 3 21 = .ii .i32 := by kernel_rfl
@[go_sem] theorem s_cv5_3 : convShape Try.prog 5 3 = .ii .i64 := by kernel_rfl
@[go_sem] theorem s_cv21_9 : convShape Try.prog 21 9 = .is := by kernel_rfl
def vars : Nat → List Nat
  | 2 => []
  | 3 => [0, 1, 4, 5, 6, 7, 8, 9]
  | 4 => [0, 1, 4, 5, 6, 7, 9, 10, 11, 12, 13, 14, 16, 17, 18, 20, 45, 46, 47, 77, 78, 79, 85, 86, 87, 95, 96, 97]
  | 5 => [0, 1, 2, 3, 4, 6, 10, 11, 12, 14, 16, 26, 27, 28, 35, 36, 37]
  | 6 => [0, 1, 4]
  | 7 => [0, 2, 3, 4, 9, 10]
  | 8 => [0, 2, 3, 4]
  | 9 => [0, 1, 2, 4, 5, 8, 9]
  | 10 => [0, 1, 2, 3, 4]
  | 11 => [0, 1, 2, 3, 4, 6, 7, 15, 16, 17, 23, 24, 25]
  | 12 => [0, 2, 3, 4, 5]
  | 13 => [0, 1, 4]
  | 14 => [0, 1, 2, 3, 8, 9, 10, 11, 12, 13, 14]
  | 15 => [0, 1, 2, 4, 5, 7, 22, 23, 24]
  | 16 => [0, 1, 2, 3, 4, 8, 9, 10, 11, 35, 36, 37]
  | 17 => [0, 1, 2, 4, 5, 7, 17, 18, 19]
  | 18 => [0, 1, 4, 5, 12, 13]
  | 19 => [0, 1, 2, 4, 5]
  | 20 => [0, 1, 3, 4, 5, 6, 7, 56]
  | 21 => [0, 1, 2, 4, 5]
  | 22 => [0, 1, 4, 5, 6]
  | 23 => [0, 1, 2, 3, 6, 7, 8]
  | 24 => [0, 1, 2, 3, 6]
  | 25 => [0, 1, 2, 4, 5, 6, 8, 9, 10]
  | 26 => [0, 1, 2, 4, 10, 11, 12]
  | 27 => [0, 1, 2, 3, 5, 6, 8, 10, 12, 13, 14, 15, 26, 27, 28, 66, 67, 68, 103, 104, 105, 110, 111, 112, 140, 141, 142]
  | 28 => [0, 1, 2, 5, 6, 8, 10, 11, 14, 15, 16, 20, 21, 22]
  | 29 => [0, 1, 4]
  | 30 => [0, 1, 4]
  | 31 => [0, 1, 2, 3, 8, 9]
  | 32 => [0, 1, 4, 5]
  | 33 => [0, 1, 2, 4]
  | 34 => [0, 1, 2, 4]
  | 35 => [0, 2, 4]
  | 36 => [0, 1, 3, 4, 5, 6, 7, 8, 40]
  | 37 => [0, 1, 2, 3, 4]
  | 38 => [0, 2]
  | 39 => [0, 2, 3, 4, 5, 15, 16]
  | 40 => [0, 2]
  | 41 => [0, 1, 2, 3, 6, 8, 23, 24, 25]
  | 42 => [0, 1, 2, 3, 6, 7, 8, 9, 11, 29, 91, 92, 93]
  | 43 => [0, 1, 2, 3, 8, 9, 10, 11, 12, 13]
  | 44 => [0, 1, 2, 5, 6]
  | 45 => [0, 2, 3, 6]
  | 46 => [0, 2, 3, 4, 5, 7]
  | 47 => [0, 2, 3]
  | 48 => [0, 1, 2, 3, 6, 7, 9]
  | 49 => [0, 1, 2, 3, 8, 9, 10, 11, 12, 13, 14, 15, 16, 17, 31, 32, 33]
  | 50 => [0, 2, 4, 5, 6, 7]
  | 51 => [0, 1, 2, 4, 5]
  | 52 => [0, 1, 2, 4, 5, 10, 11]
  | 53 => [0, 1, 2, 5, 6, 7, 8, 10, 70, 71]
  | 54 => [0, 1, 2]
  | 55 => [0, 2]
  | 56 => [0, 1, 2]
  | 57 => [0, 1, 2, 5, 6, 7, 10]
  | 58 => [0, 1, 2]
  | 59 => [0, 1, 2, 4]
  | _ => []
@[go_sem] theorem vars_2 : vars 2 = [] := rfl
@[go_sem] theorem vars_3 : vars 3 = [0, 1, 4, 5, 6, 7, 8, 9] := rfl
@[go_sem] theorem vars_4 : vars 4 = [0, 1, 4, 5, 6, 7, 9, 10, 11, 12, 13, 14, 16, 17, 18, 20, 45, 46, 47, 77, 78, 79, 85, 86, 87, 95, 96, 97] := rfl
@[go_sem] theorem vars_5 : vars 5 = [0, 1, 2, 3, 4, 6, 10, 11, 12, 14, 16, 26, 27, 28, 35, 36, 37] := rfl
@[go_sem] theorem vars_6 : vars 6 = [0, 1, 4] := rfl
@[go_sem] theorem vars_7 : vars 7 = [0, 2, 3, 4, 9, 10] := rfl
@[go_sem] theorem vars_8 : vars 8 = [0, 2, 3, 4] := rfl
@[go_sem] theorem vars_9 : vars 9 = [0, 1, 2, 4, 5, 8, 9] := rfl
@[go_sem] theorem vars_10 : vars 10 = [0, 1, 2, 3, 4] := rfl
@[go_sem] theorem vars_11 : vars 11 = [0, 1, 2, 3, 4, 6, 7, 15, 16, 17, 23, 24, 25] := rfl
@[go_sem] theorem vars_12 : vars 12 = [0, 2, 3, 4, 5] := rfl
@[go_sem] theorem vars_13 : vars 13 = [0, 1, 4] := rfl
@[go_sem] theorem vars_14 : vars 14 = [0, 1, 2, 3, 8, 9, 10, 11, 12, 13, 14] := rfl
@[go_sem] theorem vars_15 : vars 15 = [0, 1, 2, 4, 5, 7, 22, 23, 24] := rfl
@[go_sem] theorem vars_16 : vars 16 = [0, 1, 2, 3, 4, 8, 9, 10, 11, 35, 36, 37] := rfl
@[go_sem] theorem vars_17 : vars 17 = [0, 1, 2, 4, 5, 7, 17, 18, 19] := rfl
@[go_sem] theorem vars_18 : vars 18 = [0, 1, 4, 5, 12, 13] := rfl
@[go_sem] theorem vars_19 : vars 19 = [0, 1, 2, 4, 5] := rfl
@[go_sem] theorem vars_20 : vars 20 = [0, 1, 3, 4, 5, 6, 7, 56] := rfl
@[go_sem] theorem vars_21 : vars 21 = [0, 1, 2, 4, 5] := rfl
@[go_sem] theorem vars_22 : vars 22 = [0, 1, 4, 5, 6] := rfl
@[go_sem] theorem vars_23 : vars 23 = [0, 1, 2, 3, 6, 7, 8] := rfl
@[go_sem] theorem vars_24 : vars 24 = [0, 1, 2, 3, 6] := rfl
@[go_sem] theorem vars_25 : vars 25 = [0, 1, 2, 4, 5, 6, 8, 9, 10] := rfl
@[go_sem] theorem vars_26 : vars 26 = [0, 1, 2, 4, 10, 11, 12] := rfl
@[go_sem] theorem vars_27 : vars 27 = [0, 1, 2, 3, 5, 6, 8, 10, 12, 13, 14, 15, 26, 27, 28, 66, 67, 68, 103, 104, 105, 110, 111, 112, 140, 141, 142] := rfl
@[go_sem] theorem vars_28 : vars 28 = [0, 1, 2, 5, 6, 8, 10, 11, 14, 15, 16, 20, 21, 22] := rfl
@[go_sem] theorem vars_29 : vars 29 = [0, 1, 4] := rfl
@[go_sem] theorem vars_30 : vars 30 = [0, 1, 4] := rfl
@[go_sem] theorem vars_31 : vars 31 = [0, 1, 2, 3, 8, 9] := rfl
@[go_sem] theorem vars_32 : vars 32 = [0, 1, 4, 5] := rfl
@[go_sem] theorem vars_33 : vars 33 = [0, 1, 2, 4] := rfl
@[go_sem] theorem vars_34 : vars 34 = [0, 1, 2, 4] := rfl
@[go_sem] theorem vars_35 : vars 35 = [0, 2, 4] := rfl
@[go_sem] theorem vars_36 : vars 36 = [0, 1, 3, 4, 5, 6, 7, 8, 40] := rfl
@[go_sem] theorem vars_37 : vars 37 = [0, 1, 2, 3, 4] := rfl
@[go_sem] theorem vars_38 : vars 38 = [0, 2] := rfl
@[go_sem] theorem vars_39 : vars 39 = [0, 2, 3, 4, 5, 15, 16] := rfl
@[go_sem] theorem vars_40 : vars 40 = [0, 2] := rfl
@[go_sem] theorem vars_41 : vars 41 = [0, 1, 2, 3, 6, 8, 23, 24, 25] := rfl
@[go_sem] theorem vars_42 : vars 42 = [0, 1, 2, 3, 6, 7, 8, 9, 11, 29, 91, 92, 93] := rfl
@[go_sem] theorem vars_43 : vars 43 = [0, 1, 2, 3, 8, 9, 10, 11, 12, 13] := rfl
@[go_sem] theorem vars_44 : vars 44 = [0, 1, 2, 5, 6] := rfl
@[go_sem] theorem vars_45 : vars 45 = [0, 2, 3, 6] := rfl
@[go_sem] theorem vars_46 : vars 46 = [0, 2, 3, 4, 5, 7] := rfl
@[go_sem] theorem vars_47 : vars 47 = [0, 2, 3] := rfl
@[go_sem] theorem vars_48 : vars 48 = [0, 1, 2, 3, 6, 7, 9] := rfl
@[go_sem] theorem vars_49 : vars 49 = [0, 1, 2, 3, 8, 9, 10, 11, 12, 13, 14, 15, 16, 17, 31, 32, 33] := rfl
@[go_sem] theorem vars_50 : vars 50 = [0, 2, 4, 5, 6, 7] := rfl
@[go_sem] theorem vars_51 : vars 51 = [0, 1, 2, 4, 5] := rfl
@[go_sem] theorem vars_52 : vars 52 = [0, 1, 2, 4, 5, 10, 11] := rfl
@[go_sem] theorem vars_53 : vars 53 = [0, 1, 2, 5, 6, 7, 8, 10, 70, 71] := rfl
@[go_sem] theorem vars_54 : vars 54 = [0, 1, 2] := rfl
@[go_sem] theorem vars_55 : vars 55 = [0, 2] := rfl
@[go_sem] theorem vars_56 : vars 56 = [0, 1, 2] := rfl
@[go_sem] theorem vars_57 : vars 57 = [0, 1, 2, 5, 6, 7, 10] := rfl
@[go_sem] theorem vars_58 : vars 58 = [0, 1, 2] := rfl
@[go_sem] theorem vars_59 : vars 59 = [0, 1, 2, 4] := rfl
attribute [go_sem] Try.results2 Try.results3 Try.results4 Try.results5 Try.results6 Try.results7 Try.results8 Try.results9 Try.results10 Try.results11 Try.results12 Try.results13 Try.results14 Try.results15 Try.results16 Try.results17 Try.results18 Try.results19 Try.results20 Try.results21 Try.results22 Try.results23 Try.results24 Try.results25 Try.results26 Try.results27 Try.results28 Try.results29 Try.results30 Try.results31 Try.results32 Try.results33 Try.results34 Try.results35 Try.results36 Try.results37 Try.results38 Try.results39 Try.results40 Try.results41 Try.results42 Try.results43 Try.results44 Try.results45 Try.results46 Try.results47 Try.results48 Try.results49 Try.results50 Try.results51 Try.results52 Try.results53 Try.results54 Try.results55 Try.results56 Try.results57 Try.results58 Try.results59
end Go.Proofs.Ytfdekggfdklfeaa
namespace Go.Proofs.Ytfdekggfdklfeaa
open Go.Ab
structure Val where
  k : Int
  i : Int
  t : ByteArray
def Val.cells (v : Val) : List DV := [.int .i64 v.k, .int .i64 v.i, .str v.t]
structure Opd where
  k : Int
  ix : Int
  v : Val
def Opd.cells (o : Opd) : List DV := [.int .i64 o.k, .int .i64 o.ix, .int .i64 o.v.k, .int .i64 o.v.i, .str o.v.t]
inductive Pred where
  | mk (op cmp : Int) (l r : Opd) (args : List Pred)
mutual
def Pred.cells : Pred → List DV
  | .mk op cmp l r args => [.int .i64 op, .int .i64 cmp, .int .i64 l.k, .int .i64 l.ix, .int .i64 l.v.k, .int .i64 l.v.i, .str l.v.t, .int .i64 r.k, .int .i64 r.ix, .int .i64 r.v.k, .int .i64 r.v.i, .str r.v.t, .fsl (Pred.cellsL args) false false]
def Pred.cellsL : List Pred → List (List DV)
  | [] => []
  | p :: r => p.cells :: Pred.cellsL r
end
theorem Pred.cellsL_eq : ∀ {l : List Pred}, Pred.cellsL l = l.map fun p => p.cells
  | [] => by simp [Pred.cellsL]
  | p :: r => by rw [Pred.cellsL, Pred.cellsL_eq (l := r)]; rfl
@[go_sem] theorem Pred.len (p : Pred) : p.cells.length = 13 := by cases p; simp [Pred.cells]
@[go_sem] theorem Pred.take (p : Pred) : p.cells.take 13 = p.cells := List.take_of_length_le (by rw [p.len]; exact Nat.le_refl _)
@[go_sem] theorem Pred.nrm (p : Pred) : p.cells.map DV.norm = p.cells := by cases p; simp [Pred.cells, DV.norm]
@[go_sem] theorem Pred.ne (p : Pred) : p.cells.isEmpty = false := by cases p; simp [Pred.cells]
@[go_sem] theorem Val.ne (p : Val) : p.cells.isEmpty = false := rfl
@[go_sem] theorem Opd.ne (p : Opd) : p.cells.isEmpty = false := rfl
@[go_sem] theorem Val.len (p : Val) : p.cells.length = 3 := rfl
@[go_sem] theorem Val.take (p : Val) : p.cells.take 3 = p.cells := rfl
@[go_sem] theorem Val.nrm (p : Val) : p.cells.map DV.norm = p.cells := rfl
@[go_sem] theorem Opd.len (p : Opd) : p.cells.length = 5 := rfl
@[go_sem] theorem Opd.take (p : Opd) : p.cells.take 5 = p.cells := rfl
@[go_sem] theorem Opd.nrm (p : Opd) : p.cells.map DV.norm = p.cells := rfl
@[go_sem] theorem allLen_pred {l : List Pred} : allLen 13 (l.map fun p => p.cells) = true := by simp [allLen, Pred.len]
@[go_sem] theorem allLen_val {l : List Val} : allLen 3 (l.map fun p => p.cells) = true := by simp [allLen, Val.len]
@[go_sem] theorem allLen_opd {l : List Opd} : allLen 5 (l.map fun p => p.cells) = true := by simp [allLen, Opd.len]

mutual
def Pred.sz : Pred → Nat
  | .mk _ _ _ _ args => Pred.szL args + 1
def Pred.szL : List Pred → Nat
  | [] => 0
  | p :: r => p.sz + Pred.szL r
end
theorem Pred.sz_mem {p : Pred} : ∀ {l : List Pred}, p ∈ l → p.sz ≤ Pred.szL l
  | q :: r, h => by
    rw [Pred.szL]
    rcases List.mem_cons.1 h with rfl | h
    · omega
    · have := Pred.sz_mem h; omega
theorem Pred.sz_pos {p : Pred} : 1 ≤ p.sz := by cases p; rw [Pred.sz]; omega
theorem Pred.szL_len : ∀ {l : List Pred}, l.length ≤ Pred.szL l
  | [] => by simp
  | p :: r => by
    rw [Pred.szL, List.length_cons]
    have := Pred.szL_len (l := r)
    have := Pred.sz_pos (p := p)
    omega
abbrev predO (op cmp : Int) (l r : Opd) (args : List Pred) : AO := .flat 13 [[.int .i64 op, .int .i64 cmp, .int .i64 l.k, .int .i64 l.ix, .int .i64 l.v.k, .int .i64 l.v.i, .str l.v.t, .int .i64 r.k, .int .i64 r.ix, .int .i64 r.v.k, .int .i64 r.v.i, .str r.v.t, .fsl (args.map fun p => p.cells) false false]]
abbrev predC (op cmp : Int) (l r : Opd) (args : List Pred) : List DV := [.int .i64 op, .int .i64 cmp, .int .i64 l.k, .int .i64 l.ix, .int .i64 l.v.k, .int .i64 l.v.i, .str l.v.t, .int .i64 r.k, .int .i64 r.ix, .int .i64 r.v.k, .int .i64 r.v.i, .str r.v.t, .fsl (args.map fun p => p.cells) false false]
theorem Pred.cells_eq {op cmp : Int} {l r : Opd} {args : List Pred} : (Pred.mk op cmp l r args).cells = predC op cmp l r args := by rw [Pred.cells, Pred.cellsL_eq]
/-- kinds, as cells -/
abbrev rowsI (l : List Int) : List (List DV) := l.map fun k => [.int .i64 k]
structure Col where
  name : ByteArray
  kind : Int
def Col.cells (c : Col) : List DV := [.str c.name, .int .i64 c.kind]
structure RefT where
  cols : List Int
  table : Int
def RefT.cells (r : RefT) : List DV := [.fsl (rowsI r.cols) false false, .int .i64 r.table]
structure Tab where
  name : ByteArray
  cols : List Col
  key : Int
  refs : List RefT
  checks : List Pred
def Tab.cells (t : Tab) : List DV := [.str t.name, .fsl (t.cols.map fun c => c.cells) false false, .int .i64 t.key, .fsl (t.refs.map fun r => r.cells) false false, .fsl (t.checks.map fun p => p.cells) false false]
structure Sch where
  ver : Int
  tabs : List Tab
def Sch.cells (s : Sch) : List DV := [.int .i64 s.ver, .fsl (s.tabs.map fun t => t.cells) false false]
@[go_sem] theorem Col.ne (p : Col) : p.cells.isEmpty = false := rfl
@[go_sem] theorem RefT.ne (p : RefT) : p.cells.isEmpty = false := rfl
@[go_sem] theorem Tab.ne (p : Tab) : p.cells.isEmpty = false := rfl
@[go_sem] theorem Sch.ne (p : Sch) : p.cells.isEmpty = false := rfl
attribute [go_sem] List.isEmpty_map
@[go_sem] theorem Sch.len (p : Sch) : p.cells.length = 2 := rfl
@[go_sem] theorem Sch.take (p : Sch) : p.cells.take 2 = p.cells := rfl
@[go_sem] theorem Sch.nrm (p : Sch) : p.cells.map DV.norm = p.cells := rfl
@[go_sem] theorem Col.len (p : Col) : p.cells.length = 2 := rfl
@[go_sem] theorem Col.take (p : Col) : p.cells.take 2 = p.cells := rfl
@[go_sem] theorem Col.nrm (p : Col) : p.cells.map DV.norm = p.cells := rfl
@[go_sem] theorem RefT.len (p : RefT) : p.cells.length = 2 := rfl
@[go_sem] theorem RefT.take (p : RefT) : p.cells.take 2 = p.cells := rfl
@[go_sem] theorem RefT.nrm (p : RefT) : p.cells.map DV.norm = p.cells := rfl
@[go_sem] theorem Tab.len (p : Tab) : p.cells.length = 5 := rfl
@[go_sem] theorem Tab.take (p : Tab) : p.cells.take 5 = p.cells := rfl
@[go_sem] theorem Tab.nrm (p : Tab) : p.cells.map DV.norm = p.cells := rfl
@[go_sem] theorem allLen_col {l : List Col} : allLen 2 (l.map fun p => p.cells) = true := by simp [allLen, Col.len]
@[go_sem] theorem allLen_ref {l : List RefT} : allLen 2 (l.map fun p => p.cells) = true := by simp [allLen, RefT.len]
@[go_sem] theorem allLen_tab {l : List Tab} : allLen 5 (l.map fun p => p.cells) = true := by simp [allLen, Tab.len]
end Go.Proofs.Ytfdekggfdklfeaa
namespace Go.Proofs.Ytfdekggfdklfeaa
open Go.Ab
attribute [local irreducible] seqK blockK loopK endK
def pol : FuncId → FuncId → Pol := fun f g => if g = 6 then { own1 := true } else if g = 15 then (if f = 12 then { own1 := true } else {}) else if g = 12 then (if f = 7 then { own1 := true } else {}) else {}
def keepN : FuncId → Nat
  | 7 | 12 | 13 | 14 | 20 | 29 | 31 | 32 | 35 | 36 | 43 | 45 | 46 | 47 | 49 => 1
  | _ => 0
def C : Ctx := { pol := pol, vars := vars, glob := fun _ => none, keepN := keepN }
@[go_sem] theorem C_vars : C.vars = vars := rfl
@[go_sem] theorem C_glob : C.glob = fun _ => none := rfl
@[go_sem] theorem C_pol {a b} : C.pol a b = pol a b := rfl
@[go_sem] theorem C_keepN {a} : C.keepN a = keepN a := rfl
attribute [go_sem] pol
@[go_sem] theorem keepN_3 : keepN 3 = 0 := rfl
@[go_sem] theorem keepN_4 : keepN 4 = 0 := rfl
@[go_sem] theorem keepN_5 : keepN 5 = 0 := rfl
@[go_sem] theorem keepN_6 : keepN 6 = 0 := rfl
@[go_sem] theorem keepN_7 : keepN 7 = 1 := rfl
@[go_sem] theorem keepN_8 : keepN 8 = 0 := rfl
@[go_sem] theorem keepN_9 : keepN 9 = 0 := rfl
@[go_sem] theorem keepN_10 : keepN 10 = 0 := rfl
@[go_sem] theorem keepN_11 : keepN 11 = 0 := rfl
@[go_sem] theorem keepN_12 : keepN 12 = 1 := rfl
@[go_sem] theorem keepN_13 : keepN 13 = 1 := rfl
@[go_sem] theorem keepN_14 : keepN 14 = 1 := rfl
@[go_sem] theorem keepN_15 : keepN 15 = 0 := rfl
@[go_sem] theorem keepN_16 : keepN 16 = 0 := rfl
@[go_sem] theorem keepN_17 : keepN 17 = 0 := rfl
@[go_sem] theorem keepN_18 : keepN 18 = 0 := rfl
@[go_sem] theorem keepN_19 : keepN 19 = 0 := rfl
@[go_sem] theorem keepN_20 : keepN 20 = 1 := rfl
@[go_sem] theorem keepN_21 : keepN 21 = 0 := rfl
@[go_sem] theorem keepN_22 : keepN 22 = 0 := rfl
@[go_sem] theorem keepN_23 : keepN 23 = 0 := rfl
@[go_sem] theorem keepN_24 : keepN 24 = 0 := rfl
@[go_sem] theorem keepN_25 : keepN 25 = 0 := rfl
@[go_sem] theorem keepN_26 : keepN 26 = 0 := rfl
@[go_sem] theorem keepN_27 : keepN 27 = 0 := rfl
@[go_sem] theorem keepN_28 : keepN 28 = 0 := rfl
@[go_sem] theorem keepN_29 : keepN 29 = 1 := rfl
@[go_sem] theorem keepN_30 : keepN 30 = 0 := rfl
@[go_sem] theorem keepN_31 : keepN 31 = 1 := rfl
@[go_sem] theorem keepN_32 : keepN 32 = 1 := rfl
@[go_sem] theorem keepN_33 : keepN 33 = 0 := rfl
@[go_sem] theorem keepN_34 : keepN 34 = 0 := rfl
@[go_sem] theorem keepN_35 : keepN 35 = 1 := rfl
@[go_sem] theorem keepN_36 : keepN 36 = 1 := rfl
@[go_sem] theorem keepN_37 : keepN 37 = 0 := rfl
@[go_sem] theorem keepN_38 : keepN 38 = 0 := rfl
@[go_sem] theorem keepN_39 : keepN 39 = 0 := rfl
@[go_sem] theorem keepN_40 : keepN 40 = 0 := rfl
@[go_sem] theorem keepN_41 : keepN 41 = 0 := rfl
@[go_sem] theorem keepN_42 : keepN 42 = 0 := rfl
@[go_sem] theorem keepN_43 : keepN 43 = 1 := rfl
@[go_sem] theorem keepN_44 : keepN 44 = 0 := rfl
@[go_sem] theorem keepN_45 : keepN 45 = 1 := rfl
@[go_sem] theorem keepN_46 : keepN 46 = 1 := rfl
@[go_sem] theorem keepN_47 : keepN 47 = 1 := rfl
@[go_sem] theorem keepN_48 : keepN 48 = 0 := rfl
@[go_sem] theorem keepN_49 : keepN 49 = 1 := rfl
@[go_sem] theorem keepN_50 : keepN 50 = 0 := rfl
@[go_sem] theorem keepN_51 : keepN 51 = 0 := rfl
@[go_sem] theorem keepN_52 : keepN 52 = 0 := rfl
@[go_sem] theorem keepN_53 : keepN 53 = 0 := rfl
@[go_sem] theorem keepN_54 : keepN 54 = 0 := rfl
@[go_sem] theorem keepN_55 : keepN 55 = 0 := rfl
@[go_sem] theorem keepN_56 : keepN 56 = 0 := rfl
@[go_sem] theorem keepN_57 : keepN 57 = 0 := rfl
@[go_sem] theorem keepN_58 : keepN 58 = 0 := rfl
@[go_sem] theorem keepN_59 : keepN 59 = 0 := rfl
/-- the numbers of a case -/
abbrev rowsB (codes : List UInt8) : List (List DV) := codes.map fun b => [.int .u8 b.toNat]
abbrev caseO (codes : List UInt8) (a : Int) : AO := .flat 2 [[.fsl (rowsB codes) false false, .int .i64 a]]
abbrev hC (codes : List UInt8) (a : Int) : Heap := [some (caseO codes a)]
set_option maxRecDepth 10000
set_option maxHeartbeats 2000000
/-- a number from a case: the number, the place behind it -/
def nxI (codes : List UInt8) (a : Nat) (n : Int) : Int := match codes[a]? with | none => 0 | some b => if n < 1 then 0 else (b.toNat : Int).tmod n
def nxA (codes : List UInt8) (a : Nat) (n : Int) : Nat := match codes[a]? with | none => a | some _ => if n < 1 then a else a + 1
theorem nxI_lo {codes : List UInt8} {a : Nat} {n : Int} : 0 ≤ nxI codes a n := by
  unfold nxI; split
  · omega
  · split
    · omega
    · exact Int.tmod_nonneg _ (Int.natCast_nonneg _)
theorem nxI_hi {codes : List UInt8} {a : Nat} {n : Int} (hn : 1 ≤ n) : nxI codes a n < n := by
  unfold nxI; split
  · omega
  · split
    · omega
    · exact Int.tmod_lt_of_pos _ (by omega)
theorem sdG1 {α : Type _} {a b : α} (h : a = b := by (first | (simp (maxSteps := 2000000) (disch := first | assumption | omega | (simp only [go_sem] <;> with_reducible rfl)) only [go_sem, ↓reduceIte, ↓reduceDIte, Nat.reduceEqDiff, reduceCtorEq, Nat.reduceAdd, Nat.reduceSub, Nat.reduceMul, Nat.reduceBEq, Nat.reduceBNe, Nat.reduceLeDiff, Nat.reduceLT, Int.reduceLT, Int.reduceLE, Int.reduceToNat, Int.reduceEq, Int.reduceNeg, Int.reduceAdd, Int.reduceSub, Int.reduceMul, Nat.reduceMod, Nat.reduceDiv, Nat.reducePow, BEq.rfl, gt_iff_lt, ge_iff_le, *] <;> with_reducible rfl) | with_reducible rfl)) : a = b := h
theorem sdG1p {a b : Nat} (h : a ≤ b := by (first | (simp (maxSteps := 2000000) (disch := first | assumption | omega | (simp only [go_sem] <;> with_reducible rfl)) only [go_sem, ↓reduceIte, ↓reduceDIte, Nat.reduceEqDiff, reduceCtorEq, Nat.reduceAdd, Nat.reduceSub, Nat.reduceMul, Nat.reduceBEq, Nat.reduceBNe, Nat.reduceLeDiff, Nat.reduceLT, Int.reduceLT, Int.reduceLE, Int.reduceToNat, Int.reduceEq, Int.reduceNeg, Int.reduceAdd, Int.reduceSub, Int.reduceMul, Nat.reduceMod, Nat.reduceDiv, Nat.reducePow, BEq.rfl, gt_iff_lt, ge_iff_le, *] <;> with_reducible rfl) | with_reducible rfl)) : a ≤ b := h
theorem c_int (codes : List UInt8) (a : Nat) (n : Int) (hb : codes.length ≤ 1000) :
    CallA Try.prog C (.func 13) {} [.ptr 0 0 0, .d (.int .i64 n)] (hC codes a) fun v hs => v = .d (.int .i64 (nxI codes a n)) ∧ hs = hC codes (nxA codes a n : Nat) := by
  refine call_func Try.func13 rfl (by decide) (by kernel_rfl) ⟨Nat.le_of_ble_eq_true rfl, Nat.le_of_ble_eq_true rfl⟩ ?_
  unfold nxI nxA
  cases hc0 : codes[a]? with
  | none =>
    have hl : (codes.length : Int) ≤ a := by have := List.getElem?_eq_none_iff.1 hc0; omega
    repeat' (first
    | ((with_reducible first | apply o_some | apply o_none | apply x_joined); exact sdG1; exact sdG1)
    | ((with_reducible first | apply d_some | apply d_none); exact sdG1; exact sdG1; exact sdG1)
    | ((with_reducible first | apply o_gT | apply d_gT); exact sdG1; exact sdG1)
    | ((with_reducible first | apply o_gF | apply d_gF); exact sdG1; exact sdG1; rfl)
    | ((with_reducible first | apply o_gU | apply d_gU); exact sdG1; exact sdG1)
    | ((with_reducible apply o_nilq); (exact ⟨by decide, by first | assumption | simp only [go_sem]⟩); exact sdG1; exact sdG1)
    | (with_reducible first | apply o_nil | apply x_next | apply x_seq | apply x_block | apply x_leave_normal | apply x_leave_ret | apply x_pass_ret | apply x_loop_exit | apply x_loop_ret | apply x_pass_exit | apply x_exit | apply x_ret | apply x_skip | apply x_label | apply x_join_ret | apply x_join_exit)
    | ((with_reducible apply d_end); kernel_rfl)
    | ((with_reducible apply x_region); exact sdG1)
    | ((with_reducible apply x_regionD); kernel_rfl; exact sdG1; exact sdG1)
    | ((with_reducible first | apply x_leave_exit | apply x_condT); exact sdG1)
    | ((with_reducible apply x_condF); exact sdG1)
    | ((first | ((with_reducible apply x_condB); exact sdG1) | ((with_reducible first | apply o_gB | apply d_gB); exact sdG1; exact sdG1)); all_goals intro hc; all_goals (try simp only [decide_eq_true_eq, decide_eq_false_iff_not, Bool.not_eq_true', Bool.not_eq_false', Bool.and_eq_true, Bool.or_eq_false_iff, Classical.not_not] at hc); all_goals (try (exfalso; omega)))
    | ((with_reducible apply x_end); (first | exact .inl rfl | exact .inr rfl); exact sdG1; exact sdG1))
    all_goals exact ⟨rfl, rfl⟩
  | some b =>
    have hl : ¬ (codes.length : Int) ≤ a := by have := (List.getElem?_eq_some_iff.1 hc0).1; omega
    have hl2 : a < codes.length := by omega
    have hb2 := b.toNat_lt
    repeat' (first
    | ((with_reducible first | apply o_some | apply o_none | apply x_joined); exact sdG1; exact sdG1)
    | ((with_reducible first | apply d_some | apply d_none); exact sdG1; exact sdG1; exact sdG1)
    | ((with_reducible first | apply o_gT | apply d_gT); exact sdG1; exact sdG1)
    | ((with_reducible first | apply o_gF | apply d_gF); exact sdG1; exact sdG1; rfl)
    | ((with_reducible first | apply o_gU | apply d_gU); exact sdG1; exact sdG1)
    | ((with_reducible apply o_nilq); (exact ⟨by decide, by first | assumption | simp only [go_sem]⟩); exact sdG1; exact sdG1)
    | (with_reducible first | apply o_nil | apply x_next | apply x_seq | apply x_block | apply x_leave_normal | apply x_leave_ret | apply x_pass_ret | apply x_loop_exit | apply x_loop_ret | apply x_pass_exit | apply x_exit | apply x_ret | apply x_skip | apply x_label | apply x_join_ret | apply x_join_exit)
    | ((with_reducible apply d_end); kernel_rfl)
    | ((with_reducible apply x_region); exact sdG1)
    | ((with_reducible apply x_regionD); kernel_rfl; exact sdG1; exact sdG1)
    | ((with_reducible first | apply x_leave_exit | apply x_condT); exact sdG1)
    | ((with_reducible apply x_condF); exact sdG1)
    | ((first | ((with_reducible apply x_condB); exact sdG1) | ((with_reducible first | apply o_gB | apply d_gB); exact sdG1; exact sdG1)); all_goals intro hc; all_goals (try simp only [decide_eq_true_eq, decide_eq_false_iff_not, Bool.not_eq_true', Bool.not_eq_false', Bool.and_eq_true, Bool.or_eq_false_iff, Classical.not_not] at hc); all_goals (try (exfalso; omega)))
    | ((with_reducible apply x_end); (first | exact .inl rfl | exact .inr rfl); exact sdG1; exact sdG1))
    all_goals (first | exact ⟨rfl, rfl⟩ | exact ⟨by simp [*], by simp [*]⟩)
theorem c_bool (codes : List UInt8) (a : Nat) (n : Int) (hb : codes.length ≤ 1000) (hn : 0 ≤ n) (hn2 : n ≤ 1000) :
    CallA Try.prog C (.func 29) {} [.ptr 0 0 0, .d (.int .i64 n)] (hC codes a) fun v hs => v = .d (.bool (decide (nxI codes a n = n - 1))) ∧ hs = hC codes (nxA codes a n : Nat) := by
  refine call_func Try.func29 rfl (by decide) (by kernel_rfl) ⟨Nat.le_of_ble_eq_true rfl, Nat.le_of_ble_eq_true rfl⟩ ?_
  repeat' (first
    | ((with_reducible first | apply o_some | apply o_none | apply x_joined); exact sdG1; exact sdG1)
    | ((with_reducible first | apply d_some | apply d_none); exact sdG1; exact sdG1; exact sdG1)
    | ((with_reducible first | apply o_gT | apply d_gT); exact sdG1; exact sdG1)
    | ((with_reducible first | apply o_gF | apply d_gF); exact sdG1; exact sdG1; rfl)
    | ((with_reducible first | apply o_gU | apply d_gU); exact sdG1; exact sdG1)
    | ((with_reducible apply o_nilq); (exact ⟨by decide, by first | assumption | simp only [go_sem]⟩); exact sdG1; exact sdG1)
    | (with_reducible first | apply o_nil | apply x_next | apply x_seq | apply x_block | apply x_leave_normal | apply x_leave_ret | apply x_pass_ret | apply x_loop_exit | apply x_loop_ret | apply x_pass_exit | apply x_exit | apply x_ret | apply x_skip | apply x_label | apply x_join_ret | apply x_join_exit)
    | ((with_reducible apply d_end); kernel_rfl)
    | ((with_reducible apply x_region); exact sdG1)
    | ((with_reducible apply x_regionD); kernel_rfl; exact sdG1; exact sdG1)
    | ((with_reducible first | apply x_leave_exit | apply x_condT); exact sdG1)
    | ((with_reducible apply x_condF); exact sdG1)
    | ((first | ((with_reducible apply x_condB); exact sdG1) | ((with_reducible first | apply o_gB | apply d_gB); exact sdG1; exact sdG1)); all_goals intro hc; all_goals (try simp only [decide_eq_true_eq, decide_eq_false_iff_not, Bool.not_eq_true', Bool.not_eq_false', Bool.and_eq_true, Bool.or_eq_false_iff, Classical.not_not] at hc); all_goals (try (exfalso; omega)))
    | ((with_reducible apply o_call); exact sdG1; exact sdG1; exact sdG1; (first | exact c_int codes a n hb); exact sdG1; exact sdG1)
    | ((with_reducible apply o_callN); exact sdG1; exact sdG1; exact sdG1; (first | exact c_int codes a n hb); exact sdG1)
    | ((with_reducible apply d_callS); exact sdG1; exact sdG1; exact sdG1; (first | exact c_int codes a n hb); exact sdG1p; exact sdG1; exact sdG1; exact sdG1; exact sdG1)
    | ((with_reducible apply x_end); (first | exact .inl rfl | exact .inr rfl); exact sdG1; exact sdG1))
  all_goals exact ⟨rfl, rfl⟩
attribute [irreducible] nxI nxA
end Go.Proofs.Ytfdekggfdklfeaa
