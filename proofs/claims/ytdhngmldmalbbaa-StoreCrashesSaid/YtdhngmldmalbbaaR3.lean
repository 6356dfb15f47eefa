/-
  A part of a proof: StoreCrashes answers true for all codes, cuts, places and bytes, without conditions.
-/
import Derived.Test.YtdhngmldmalbbaaR2
import Derived.Test.YtdhngmldmalbbaaProg
section
set_option linter.all false
/-
  Facts on the types of this seat, made by a program (wip/lift/tab.py).
-/
namespace Go.Proofs.Ytdhngmldmalbbaa
open Go.Lift
@[go_sem] theorem tab_row0 : rowT Try.prog 0 = some false := by kernel_rfl
@[go_sem] theorem tab_size0 : sizeT Try.prog 0 = some 1 := by kernel_rfl
@[go_sem] theorem tab_row1 : rowT Try.prog 1 = some false := by kernel_rfl
@[go_sem] theorem tab_size1 : sizeT Try.prog 1 = some 1 := by kernel_rfl
@[go_sem] theorem tab_conc1 : Program.concrete Try.prog 1 = true := by kernel_rfl
@[go_sem] theorem tab_lay1 : layE Try.prog 1 = some (1, 8, [.nilf]) := by kernel_rfl
@[go_sem] theorem tab_row2 : rowT Try.prog 2 = some false := by kernel_rfl
@[go_sem] theorem tab_size2 : sizeT Try.prog 2 = some 1 := by kernel_rfl
@[go_sem] theorem tab_int2 : intT Try.prog 2 = some .i64 := by kernel_rfl
@[go_sem] theorem tab_conc2 : Program.concrete Try.prog 2 = true := by kernel_rfl
@[go_sem] theorem tab_lay2 : layE Try.prog 2 = some (1, 8, [.int .i64 0]) := by kernel_rfl
@[go_sem] theorem tab_row3 : rowT Try.prog 3 = some false := by kernel_rfl
@[go_sem] theorem tab_size3 : sizeT Try.prog 3 = some 1 := by kernel_rfl
@[go_sem] theorem tab_int3 : intT Try.prog 3 = some .i64 := by kernel_rfl
@[go_sem] theorem tab_conc3 : Program.concrete Try.prog 3 = true := by kernel_rfl
@[go_sem] theorem tab_lay3 : layE Try.prog 3 = some (1, 8, [.int .i64 0]) := by kernel_rfl
@[go_sem] theorem tab_row4 : rowT Try.prog 4 = some false := by kernel_rfl
@[go_sem] theorem tab_size4 : sizeT Try.prog 4 = some 1 := by kernel_rfl
@[go_sem] theorem tab_bool4 : isBoolT Try.prog 4 = true := by kernel_rfl
@[go_sem] theorem tab_conc4 : Program.concrete Try.prog 4 = true := by kernel_rfl
@[go_sem] theorem tab_lay4 : layE Try.prog 4 = some (1, 1, [.bool false]) := by kernel_rfl
@[go_sem] theorem tab_row5 : rowT Try.prog 5 = some false := by kernel_rfl
@[go_sem] theorem tab_size5 : sizeT Try.prog 5 = some 1 := by kernel_rfl
@[go_sem] theorem tab_int5 : intT Try.prog 5 = some .u8 := by kernel_rfl
@[go_sem] theorem tab_conc5 : Program.concrete Try.prog 5 = true := by kernel_rfl
@[go_sem] theorem tab_lay5 : layE Try.prog 5 = some (1, 1, [.int .u8 0]) := by kernel_rfl
@[go_sem] theorem tab_row6 : rowT Try.prog 6 = some false := by kernel_rfl
@[go_sem] theorem tab_size6 : sizeT Try.prog 6 = some 1 := by kernel_rfl
@[go_sem] theorem tab_int6 : intT Try.prog 6 = some .u8 := by kernel_rfl
@[go_sem] theorem tab_conc6 : Program.concrete Try.prog 6 = true := by kernel_rfl
@[go_sem] theorem tab_lay6 : layE Try.prog 6 = some (1, 1, [.int .u8 0]) := by kernel_rfl
@[go_sem] theorem tab_row7 : rowT Try.prog 7 = some true := by kernel_rfl
@[go_sem] theorem tab_size7 : sizeT Try.prog 7 = some 4 := by kernel_rfl
@[go_sem] theorem tab_conc7 : Program.concrete Try.prog 7 = true := by kernel_rfl
@[go_sem] theorem tab_lay7 : layE Try.prog 7 = some (4, 24, [.int .i64 0, .int .i64 0, .bool false, .int .u8 0]) := by kernel_rfl
@[go_sem] theorem tab_known7 : knownT Try.prog 7 = true := by kernel_rfl
@[go_sem] theorem tab_fld7_0 : fldT Try.prog 7 0 = some 0 := by kernel_rfl
@[go_sem] theorem tab_fty7_0 : fldTy Try.prog 7 0 = some (2, 0) := by kernel_rfl
@[go_sem] theorem tab_pl7_0 : placeT Try.prog 7 0 = some (0, 1) := by kernel_rfl
@[go_sem] theorem tab_fld7_1 : fldT Try.prog 7 1 = some 1 := by kernel_rfl
@[go_sem] theorem tab_fty7_1 : fldTy Try.prog 7 1 = some (3, 1) := by kernel_rfl
@[go_sem] theorem tab_pl7_1 : placeT Try.prog 7 1 = some (1, 1) := by kernel_rfl
@[go_sem] theorem tab_fld7_2 : fldT Try.prog 7 2 = some 2 := by kernel_rfl
@[go_sem] theorem tab_fty7_2 : fldTy Try.prog 7 2 = some (4, 2) := by kernel_rfl
@[go_sem] theorem tab_pl7_2 : placeT Try.prog 7 2 = some (2, 1) := by kernel_rfl
@[go_sem] theorem tab_fld7_3 : fldT Try.prog 7 3 = some 3 := by kernel_rfl
@[go_sem] theorem tab_fty7_3 : fldTy Try.prog 7 3 = some (6, 3) := by kernel_rfl
@[go_sem] theorem tab_pl7_3 : placeT Try.prog 7 3 = some (3, 1) := by kernel_rfl
@[go_sem] theorem tab_row8 : rowT Try.prog 8 = some true := by kernel_rfl
@[go_sem] theorem tab_size8 : sizeT Try.prog 8 = some 4 := by kernel_rfl
@[go_sem] theorem tab_conc8 : Program.concrete Try.prog 8 = true := by kernel_rfl
@[go_sem] theorem tab_lay8 : layE Try.prog 8 = some (4, 24, [.int .i64 0, .int .i64 0, .bool false, .int .u8 0]) := by kernel_rfl
@[go_sem] theorem tab_known8 : knownT Try.prog 8 = true := by kernel_rfl
@[go_sem] theorem tab_fld8_0 : fldT Try.prog 8 0 = some 0 := by kernel_rfl
@[go_sem] theorem tab_fty8_0 : fldTy Try.prog 8 0 = some (2, 0) := by kernel_rfl
@[go_sem] theorem tab_pl8_0 : placeT Try.prog 8 0 = some (0, 1) := by kernel_rfl
@[go_sem] theorem tab_fld8_1 : fldT Try.prog 8 1 = some 1 := by kernel_rfl
@[go_sem] theorem tab_fty8_1 : fldTy Try.prog 8 1 = some (3, 1) := by kernel_rfl
@[go_sem] theorem tab_pl8_1 : placeT Try.prog 8 1 = some (1, 1) := by kernel_rfl
@[go_sem] theorem tab_fld8_2 : fldT Try.prog 8 2 = some 2 := by kernel_rfl
@[go_sem] theorem tab_fty8_2 : fldTy Try.prog 8 2 = some (4, 2) := by kernel_rfl
@[go_sem] theorem tab_pl8_2 : placeT Try.prog 8 2 = some (2, 1) := by kernel_rfl
@[go_sem] theorem tab_fld8_3 : fldT Try.prog 8 3 = some 3 := by kernel_rfl
@[go_sem] theorem tab_fty8_3 : fldTy Try.prog 8 3 = some (6, 3) := by kernel_rfl
@[go_sem] theorem tab_pl8_3 : placeT Try.prog 8 3 = some (3, 1) := by kernel_rfl
@[go_sem] theorem tab_row9 : rowT Try.prog 9 = some false := by kernel_rfl
@[go_sem] theorem tab_size9 : sizeT Try.prog 9 = some 1 := by kernel_rfl
@[go_sem] theorem tab_k9 : kT Try.prog 9 = .str := by kernel_rfl
@[go_sem] theorem tab_src9 : srcT Try.prog 9 = true := by kernel_rfl
@[go_sem] theorem tab_str9 : isStrT Try.prog 9 = true := by kernel_rfl
@[go_sem] theorem tab_conc9 : Program.concrete Try.prog 9 = true := by kernel_rfl
@[go_sem] theorem tab_lay9 : layE Try.prog 9 = some (1, 16, [.str ⟨#[]⟩]) := by kernel_rfl
@[go_sem] theorem tab_row10 : rowT Try.prog 10 = some false := by kernel_rfl
@[go_sem] theorem tab_size10 : sizeT Try.prog 10 = some 1 := by kernel_rfl
@[go_sem] theorem tab_k10 : kT Try.prog 10 = .str := by kernel_rfl
@[go_sem] theorem tab_src10 : srcT Try.prog 10 = true := by kernel_rfl
@[go_sem] theorem tab_str10 : isStrT Try.prog 10 = true := by kernel_rfl
@[go_sem] theorem tab_conc10 : Program.concrete Try.prog 10 = true := by kernel_rfl
@[go_sem] theorem tab_lay10 : layE Try.prog 10 = some (1, 16, [.str ⟨#[]⟩]) := by kernel_rfl
@[go_sem] theorem tab_row11 : rowT Try.prog 11 = some false := by kernel_rfl
@[go_sem] theorem tab_size11 : sizeT Try.prog 11 = some 1 := by kernel_rfl
@[go_sem] theorem tab_k11 : kT Try.prog 11 = .str := by kernel_rfl
@[go_sem] theorem tab_src11 : srcT Try.prog 11 = true := by kernel_rfl
@[go_sem] theorem tab_str11 : isStrT Try.prog 11 = true := by kernel_rfl
@[go_sem] theorem tab_conc11 : Program.concrete Try.prog 11 = true := by kernel_rfl
@[go_sem] theorem tab_lay11 : layE Try.prog 11 = some (1, 16, [.str ⟨#[]⟩]) := by kernel_rfl
@[go_sem] theorem tab_row12 : rowT Try.prog 12 = some false := by kernel_rfl
@[go_sem] theorem tab_size12 : sizeT Try.prog 12 = some 1 := by kernel_rfl
@[go_sem] theorem tab_int12 : intT Try.prog 12 = some .u64 := by kernel_rfl
@[go_sem] theorem tab_conc12 : Program.concrete Try.prog 12 = true := by kernel_rfl
@[go_sem] theorem tab_lay12 : layE Try.prog 12 = some (1, 8, [.int .u64 0]) := by kernel_rfl
@[go_sem] theorem tab_row13 : rowT Try.prog 13 = some true := by kernel_rfl
@[go_sem] theorem tab_size13 : sizeT Try.prog 13 = some 2 := by kernel_rfl
@[go_sem] theorem tab_conc13 : Program.concrete Try.prog 13 = true := by kernel_rfl
@[go_sem] theorem tab_lay13 : layE Try.prog 13 = some (2, 24, [.str ⟨#[]⟩, .int .u64 0]) := by kernel_rfl
@[go_sem] theorem tab_known13 : knownT Try.prog 13 = true := by kernel_rfl
@[go_sem] theorem tab_fld13_0 : fldT Try.prog 13 0 = some 0 := by kernel_rfl
@[go_sem] theorem tab_fty13_0 : fldTy Try.prog 13 0 = some (9, 0) := by kernel_rfl
@[go_sem] theorem tab_pl13_0 : placeT Try.prog 13 0 = some (0, 1) := by kernel_rfl
@[go_sem] theorem tab_fld13_1 : fldT Try.prog 13 1 = some 1 := by kernel_rfl
@[go_sem] theorem tab_fty13_1 : fldTy Try.prog 13 1 = some (12, 1) := by kernel_rfl
@[go_sem] theorem tab_pl13_1 : placeT Try.prog 13 1 = some (1, 1) := by kernel_rfl
@[go_sem] theorem tab_row14 : rowT Try.prog 14 = some true := by kernel_rfl
@[go_sem] theorem tab_size14 : sizeT Try.prog 14 = some 2 := by kernel_rfl
@[go_sem] theorem tab_conc14 : Program.concrete Try.prog 14 = true := by kernel_rfl
@[go_sem] theorem tab_lay14 : layE Try.prog 14 = some (2, 24, [.str ⟨#[]⟩, .int .u64 0]) := by kernel_rfl
@[go_sem] theorem tab_known14 : knownT Try.prog 14 = true := by kernel_rfl
@[go_sem] theorem tab_fld14_0 : fldT Try.prog 14 0 = some 0 := by kernel_rfl
@[go_sem] theorem tab_fty14_0 : fldTy Try.prog 14 0 = some (9, 0) := by kernel_rfl
@[go_sem] theorem tab_pl14_0 : placeT Try.prog 14 0 = some (0, 1) := by kernel_rfl
@[go_sem] theorem tab_fld14_1 : fldT Try.prog 14 1 = some 1 := by kernel_rfl
@[go_sem] theorem tab_fty14_1 : fldTy Try.prog 14 1 = some (12, 1) := by kernel_rfl
@[go_sem] theorem tab_pl14_1 : placeT Try.prog 14 1 = some (1, 1) := by kernel_rfl
@[go_sem] theorem tab_row15 : rowT Try.prog 15 = some false := by kernel_rfl
@[go_sem] theorem tab_size15 : sizeT Try.prog 15 = some 1 := by kernel_rfl
@[go_sem] theorem tab_ptr15 : isPtrT Try.prog 15 = true := by kernel_rfl
@[go_sem] theorem tab_conc15 : Program.concrete Try.prog 15 = true := by kernel_rfl
@[go_sem] theorem tab_lay15 : layE Try.prog 15 = some (1, 8, [.nilp]) := by kernel_rfl
@[go_sem] theorem tab_row16 : rowT Try.prog 16 = some false := by kernel_rfl
@[go_sem] theorem tab_size16 : sizeT Try.prog 16 = some 1 := by kernel_rfl
@[go_sem] theorem tab_ptr16 : isPtrT Try.prog 16 = true := by kernel_rfl
@[go_sem] theorem tab_conc16 : Program.concrete Try.prog 16 = true := by kernel_rfl
@[go_sem] theorem tab_lay16 : layE Try.prog 16 = some (1, 8, [.nilp]) := by kernel_rfl
@[go_sem] theorem tab_row17 : rowT Try.prog 17 = some false := by kernel_rfl
@[go_sem] theorem tab_size17 : sizeT Try.prog 17 = some 1 := by kernel_rfl
@[go_sem] theorem tab_ptr17 : isPtrT Try.prog 17 = true := by kernel_rfl
@[go_sem] theorem tab_conc17 : Program.concrete Try.prog 17 = true := by kernel_rfl
@[go_sem] theorem tab_lay17 : layE Try.prog 17 = some (1, 8, [.nilp]) := by kernel_rfl
@[go_sem] theorem tab_row18 : rowT Try.prog 18 = some true := by kernel_rfl
@[go_sem] theorem tab_size18 : sizeT Try.prog 18 = some 1 := by kernel_rfl
@[go_sem] theorem tab_conc18 : Program.concrete Try.prog 18 = true := by kernel_rfl
@[go_sem] theorem tab_lay18 : layE Try.prog 18 = some (1, 8, [.nilp]) := by kernel_rfl
@[go_sem] theorem tab_known18 : knownT Try.prog 18 = true := by kernel_rfl
@[go_sem] theorem tab_fld18_0 : fldT Try.prog 18 0 = some 0 := by kernel_rfl
@[go_sem] theorem tab_fty18_0 : fldTy Try.prog 18 0 = some (17, 0) := by kernel_rfl
@[go_sem] theorem tab_pl18_0 : placeT Try.prog 18 0 = some (0, 1) := by kernel_rfl
@[go_sem] theorem tab_row19 : rowT Try.prog 19 = some true := by kernel_rfl
@[go_sem] theorem tab_size19 : sizeT Try.prog 19 = some 1 := by kernel_rfl
@[go_sem] theorem tab_conc19 : Program.concrete Try.prog 19 = true := by kernel_rfl
@[go_sem] theorem tab_lay19 : layE Try.prog 19 = some (1, 8, [.nilp]) := by kernel_rfl
@[go_sem] theorem tab_known19 : knownT Try.prog 19 = true := by kernel_rfl
@[go_sem] theorem tab_fld19_0 : fldT Try.prog 19 0 = some 0 := by kernel_rfl
@[go_sem] theorem tab_fty19_0 : fldTy Try.prog 19 0 = some (17, 0) := by kernel_rfl
@[go_sem] theorem tab_pl19_0 : placeT Try.prog 19 0 = some (0, 1) := by kernel_rfl
@[go_sem] theorem tab_row20 : rowT Try.prog 20 = some false := by kernel_rfl
@[go_sem] theorem tab_size20 : sizeT Try.prog 20 = some 1 := by kernel_rfl
@[go_sem] theorem tab_lay20 : layE Try.prog 20 = some (1, 16, [.nili]) := by kernel_rfl
@[go_sem] theorem tab_row21 : rowT Try.prog 21 = some false := by kernel_rfl
@[go_sem] theorem tab_size21 : sizeT Try.prog 21 = some 1 := by kernel_rfl
@[go_sem] theorem tab_int21 : intT Try.prog 21 = some .i32 := by kernel_rfl
@[go_sem] theorem tab_conc21 : Program.concrete Try.prog 21 = true := by kernel_rfl
@[go_sem] theorem tab_lay21 : layE Try.prog 21 = some (1, 4, [.int .i32 0]) := by kernel_rfl
@[go_sem] theorem tab_row22 : rowT Try.prog 22 = some false := by kernel_rfl
@[go_sem] theorem tab_size22 : sizeT Try.prog 22 = some 1 := by kernel_rfl
@[go_sem] theorem tab_elem22 : elemT Try.prog 22 = some 5 := by kernel_rfl
@[go_sem] theorem tab_k22 : kT Try.prog 22 = .sl 5 := by kernel_rfl
@[go_sem] theorem tab_src22 : srcT Try.prog 22 = true := by kernel_rfl
@[go_sem] theorem tab_conc22 : Program.concrete Try.prog 22 = true := by kernel_rfl
@[go_sem] theorem tab_lay22 : layE Try.prog 22 = some (1, 24, [.sl true []]) := by kernel_rfl
@[go_sem] theorem tab_row23 : rowT Try.prog 23 = some false := by kernel_rfl
@[go_sem] theorem tab_size23 : sizeT Try.prog 23 = some 1 := by kernel_rfl
@[go_sem] theorem tab_int23 : intT Try.prog 23 = some .u16 := by kernel_rfl
@[go_sem] theorem tab_conc23 : Program.concrete Try.prog 23 = true := by kernel_rfl
@[go_sem] theorem tab_lay23 : layE Try.prog 23 = some (1, 2, [.int .u16 0]) := by kernel_rfl
@[go_sem] theorem tab_row24 : rowT Try.prog 24 = some false := by kernel_rfl
@[go_sem] theorem tab_size24 : sizeT Try.prog 24 = some 1 := by kernel_rfl
@[go_sem] theorem tab_conc24 : Program.concrete Try.prog 24 = true := by kernel_rfl
@[go_sem] theorem tab_lay24 : layE Try.prog 24 = some (1, 8, [.nilf]) := by kernel_rfl
@[go_sem] theorem tab_row25 : rowT Try.prog 25 = some false := by kernel_rfl
@[go_sem] theorem tab_size25 : sizeT Try.prog 25 = some 1 := by kernel_rfl
@[go_sem] theorem tab_ptr25 : isPtrT Try.prog 25 = true := by kernel_rfl
@[go_sem] theorem tab_conc25 : Program.concrete Try.prog 25 = true := by kernel_rfl
@[go_sem] theorem tab_lay25 : layE Try.prog 25 = some (1, 8, [.nilp]) := by kernel_rfl
@[go_sem] theorem tab_row26 : rowT Try.prog 26 = some false := by kernel_rfl
@[go_sem] theorem tab_size26 : sizeT Try.prog 26 = some 1 := by kernel_rfl
@[go_sem] theorem tab_conc26 : Program.concrete Try.prog 26 = true := by kernel_rfl
@[go_sem] theorem tab_lay26 : layE Try.prog 26 = some (1, 8, [.nilf]) := by kernel_rfl
@[go_sem] theorem tab_row27 : rowT Try.prog 27 = some true := by kernel_rfl
@[go_sem] theorem tab_size27 : sizeT Try.prog 27 = some 4 := by kernel_rfl
@[go_sem] theorem tab_conc27 : Program.concrete Try.prog 27 = true := by kernel_rfl
@[go_sem] theorem tab_lay27 : layE Try.prog 27 = some (4, 32, [.int .i64 0, .int .i64 0, .int .i64 0, .int .i64 0]) := by kernel_rfl
@[go_sem] theorem tab_known27 : knownT Try.prog 27 = true := by kernel_rfl
@[go_sem] theorem tab_fld27_0 : fldT Try.prog 27 0 = some 0 := by kernel_rfl
@[go_sem] theorem tab_fty27_0 : fldTy Try.prog 27 0 = some (3, 0) := by kernel_rfl
@[go_sem] theorem tab_pl27_0 : placeT Try.prog 27 0 = some (0, 1) := by kernel_rfl
@[go_sem] theorem tab_fld27_1 : fldT Try.prog 27 1 = some 1 := by kernel_rfl
@[go_sem] theorem tab_fty27_1 : fldTy Try.prog 27 1 = some (3, 1) := by kernel_rfl
@[go_sem] theorem tab_pl27_1 : placeT Try.prog 27 1 = some (1, 1) := by kernel_rfl
@[go_sem] theorem tab_fld27_2 : fldT Try.prog 27 2 = some 2 := by kernel_rfl
@[go_sem] theorem tab_fty27_2 : fldTy Try.prog 27 2 = some (3, 2) := by kernel_rfl
@[go_sem] theorem tab_pl27_2 : placeT Try.prog 27 2 = some (2, 1) := by kernel_rfl
@[go_sem] theorem tab_fld27_3 : fldT Try.prog 27 3 = some 3 := by kernel_rfl
@[go_sem] theorem tab_fty27_3 : fldTy Try.prog 27 3 = some (3, 3) := by kernel_rfl
@[go_sem] theorem tab_pl27_3 : placeT Try.prog 27 3 = some (3, 1) := by kernel_rfl
@[go_sem] theorem tab_row28 : rowT Try.prog 28 = some true := by kernel_rfl
@[go_sem] theorem tab_size28 : sizeT Try.prog 28 = some 4 := by kernel_rfl
@[go_sem] theorem tab_conc28 : Program.concrete Try.prog 28 = true := by kernel_rfl
@[go_sem] theorem tab_lay28 : layE Try.prog 28 = some (4, 32, [.int .i64 0, .int .i64 0, .int .i64 0, .int .i64 0]) := by kernel_rfl
@[go_sem] theorem tab_known28 : knownT Try.prog 28 = true := by kernel_rfl
@[go_sem] theorem tab_fld28_0 : fldT Try.prog 28 0 = some 0 := by kernel_rfl
@[go_sem] theorem tab_fty28_0 : fldTy Try.prog 28 0 = some (3, 0) := by kernel_rfl
@[go_sem] theorem tab_pl28_0 : placeT Try.prog 28 0 = some (0, 1) := by kernel_rfl
@[go_sem] theorem tab_fld28_1 : fldT Try.prog 28 1 = some 1 := by kernel_rfl
@[go_sem] theorem tab_fty28_1 : fldTy Try.prog 28 1 = some (3, 1) := by kernel_rfl
@[go_sem] theorem tab_pl28_1 : placeT Try.prog 28 1 = some (1, 1) := by kernel_rfl
@[go_sem] theorem tab_fld28_2 : fldT Try.prog 28 2 = some 2 := by kernel_rfl
@[go_sem] theorem tab_fty28_2 : fldTy Try.prog 28 2 = some (3, 2) := by kernel_rfl
@[go_sem] theorem tab_pl28_2 : placeT Try.prog 28 2 = some (2, 1) := by kernel_rfl
@[go_sem] theorem tab_fld28_3 : fldT Try.prog 28 3 = some 3 := by kernel_rfl
@[go_sem] theorem tab_fty28_3 : fldTy Try.prog 28 3 = some (3, 3) := by kernel_rfl
@[go_sem] theorem tab_pl28_3 : placeT Try.prog 28 3 = some (3, 1) := by kernel_rfl
@[go_sem] theorem tab_cells28 : cellsT Try.prog 28 = some [3, 3, 3, 3] := by kernel_rfl
@[go_sem] theorem tab_row29 : rowT Try.prog 29 = some false := by kernel_rfl
@[go_sem] theorem tab_size29 : sizeT Try.prog 29 = some 1 := by kernel_rfl
@[go_sem] theorem tab_elem29 : elemT Try.prog 29 = some 81 := by kernel_rfl
@[go_sem] theorem tab_k29 : kT Try.prog 29 = .sl 81 := by kernel_rfl
@[go_sem] theorem tab_src29 : srcT Try.prog 29 = true := by kernel_rfl
@[go_sem] theorem tab_conc29 : Program.concrete Try.prog 29 = true := by kernel_rfl
@[go_sem] theorem tab_lay29 : layE Try.prog 29 = some (1, 24, [.sl true []]) := by kernel_rfl
@[go_sem] theorem tab_row30 : rowT Try.prog 30 = some true := by kernel_rfl
@[go_sem] theorem tab_size30 : sizeT Try.prog 30 = some 8 := by kernel_rfl
@[go_sem] theorem tab_conc30 : Program.concrete Try.prog 30 = true := by kernel_rfl
@[go_sem] theorem tab_lay30 : layE Try.prog 30 = some (8, 88, [.int .i64 0, .str ⟨#[]⟩, .int .i64 0, .int .i64 0, .int .i64 0, .int .i64 0, .int .i64 0, .sl true []]) := by kernel_rfl
@[go_sem] theorem tab_known30 : knownT Try.prog 30 = true := by kernel_rfl
@[go_sem] theorem tab_fld30_0 : fldT Try.prog 30 0 = some 0 := by kernel_rfl
@[go_sem] theorem tab_fty30_0 : fldTy Try.prog 30 0 = some (3, 0) := by kernel_rfl
@[go_sem] theorem tab_pl30_0 : placeT Try.prog 30 0 = some (0, 1) := by kernel_rfl
@[go_sem] theorem tab_fld30_1 : fldT Try.prog 30 1 = some 1 := by kernel_rfl
@[go_sem] theorem tab_fty30_1 : fldTy Try.prog 30 1 = some (9, 1) := by kernel_rfl
@[go_sem] theorem tab_pl30_1 : placeT Try.prog 30 1 = some (1, 1) := by kernel_rfl
@[go_sem] theorem tab_fld30_2 : fldT Try.prog 30 2 = some 2 := by kernel_rfl
@[go_sem] theorem tab_fty30_2 : fldTy Try.prog 30 2 = some (3, 2) := by kernel_rfl
@[go_sem] theorem tab_pl30_2 : placeT Try.prog 30 2 = some (2, 1) := by kernel_rfl
@[go_sem] theorem tab_fld30_3 : fldT Try.prog 30 3 = some 3 := by kernel_rfl
@[go_sem] theorem tab_fty30_3 : fldTy Try.prog 30 3 = some (28, 3) := by kernel_rfl
@[go_sem] theorem tab_pl30_3 : placeT Try.prog 30 3 = some (3, 4) := by kernel_rfl
@[go_sem] theorem tab_fld30_4 : fldT Try.prog 30 4 = some 7 := by kernel_rfl
@[go_sem] theorem tab_fty30_4 : fldTy Try.prog 30 4 = some (29, 7) := by kernel_rfl
@[go_sem] theorem tab_pl30_4 : placeT Try.prog 30 4 = some (7, 1) := by kernel_rfl
@[go_sem] theorem tab_row31 : rowT Try.prog 31 = some true := by kernel_rfl
@[go_sem] theorem tab_size31 : sizeT Try.prog 31 = some 8 := by kernel_rfl
@[go_sem] theorem tab_conc31 : Program.concrete Try.prog 31 = true := by kernel_rfl
@[go_sem] theorem tab_lay31 : layE Try.prog 31 = some (8, 88, [.int .i64 0, .str ⟨#[]⟩, .int .i64 0, .int .i64 0, .int .i64 0, .int .i64 0, .int .i64 0, .sl true []]) := by kernel_rfl
@[go_sem] theorem tab_known31 : knownT Try.prog 31 = true := by kernel_rfl
@[go_sem] theorem tab_fld31_0 : fldT Try.prog 31 0 = some 0 := by kernel_rfl
@[go_sem] theorem tab_fty31_0 : fldTy Try.prog 31 0 = some (3, 0) := by kernel_rfl
@[go_sem] theorem tab_pl31_0 : placeT Try.prog 31 0 = some (0, 1) := by kernel_rfl
@[go_sem] theorem tab_fld31_1 : fldT Try.prog 31 1 = some 1 := by kernel_rfl
@[go_sem] theorem tab_fty31_1 : fldTy Try.prog 31 1 = some (9, 1) := by kernel_rfl
@[go_sem] theorem tab_pl31_1 : placeT Try.prog 31 1 = some (1, 1) := by kernel_rfl
@[go_sem] theorem tab_fld31_2 : fldT Try.prog 31 2 = some 2 := by kernel_rfl
@[go_sem] theorem tab_fty31_2 : fldTy Try.prog 31 2 = some (3, 2) := by kernel_rfl
@[go_sem] theorem tab_pl31_2 : placeT Try.prog 31 2 = some (2, 1) := by kernel_rfl
@[go_sem] theorem tab_fld31_3 : fldT Try.prog 31 3 = some 3 := by kernel_rfl
@[go_sem] theorem tab_fty31_3 : fldTy Try.prog 31 3 = some (28, 3) := by kernel_rfl
@[go_sem] theorem tab_pl31_3 : placeT Try.prog 31 3 = some (3, 4) := by kernel_rfl
@[go_sem] theorem tab_fld31_4 : fldT Try.prog 31 4 = some 7 := by kernel_rfl
@[go_sem] theorem tab_fty31_4 : fldTy Try.prog 31 4 = some (29, 7) := by kernel_rfl
@[go_sem] theorem tab_pl31_4 : placeT Try.prog 31 4 = some (7, 1) := by kernel_rfl
@[go_sem] theorem tab_row32 : rowT Try.prog 32 = some true := by kernel_rfl
@[go_sem] theorem tab_size32 : sizeT Try.prog 32 = some 10 := by kernel_rfl
@[go_sem] theorem tab_conc32 : Program.concrete Try.prog 32 = true := by kernel_rfl
@[go_sem] theorem tab_lay32 : layE Try.prog 32 = some (10, 104, [.int .i64 0, .str ⟨#[]⟩, .int .i64 0, .int .i64 0, .int .i64 0, .int .i64 0, .int .i64 0, .sl true [], .int .i64 0, .int .i64 0]) := by kernel_rfl
@[go_sem] theorem tab_known32 : knownT Try.prog 32 = true := by kernel_rfl
@[go_sem] theorem tab_fld32_0 : fldT Try.prog 32 0 = some 0 := by kernel_rfl
@[go_sem] theorem tab_fty32_0 : fldTy Try.prog 32 0 = some (31, 0) := by kernel_rfl
@[go_sem] theorem tab_pl32_0 : placeT Try.prog 32 0 = some (0, 8) := by kernel_rfl
@[go_sem] theorem tab_fld32_1 : fldT Try.prog 32 1 = some 8 := by kernel_rfl
@[go_sem] theorem tab_fty32_1 : fldTy Try.prog 32 1 = some (3, 8) := by kernel_rfl
@[go_sem] theorem tab_pl32_1 : placeT Try.prog 32 1 = some (8, 1) := by kernel_rfl
@[go_sem] theorem tab_fld32_2 : fldT Try.prog 32 2 = some 9 := by kernel_rfl
@[go_sem] theorem tab_fty32_2 : fldTy Try.prog 32 2 = some (3, 9) := by kernel_rfl
@[go_sem] theorem tab_pl32_2 : placeT Try.prog 32 2 = some (9, 1) := by kernel_rfl
@[go_sem] theorem tab_row33 : rowT Try.prog 33 = some true := by kernel_rfl
@[go_sem] theorem tab_size33 : sizeT Try.prog 33 = some 10 := by kernel_rfl
@[go_sem] theorem tab_conc33 : Program.concrete Try.prog 33 = true := by kernel_rfl
@[go_sem] theorem tab_lay33 : layE Try.prog 33 = some (10, 104, [.int .i64 0, .str ⟨#[]⟩, .int .i64 0, .int .i64 0, .int .i64 0, .int .i64 0, .int .i64 0, .sl true [], .int .i64 0, .int .i64 0]) := by kernel_rfl
@[go_sem] theorem tab_known33 : knownT Try.prog 33 = true := by kernel_rfl
@[go_sem] theorem tab_fld33_0 : fldT Try.prog 33 0 = some 0 := by kernel_rfl
@[go_sem] theorem tab_fty33_0 : fldTy Try.prog 33 0 = some (31, 0) := by kernel_rfl
@[go_sem] theorem tab_pl33_0 : placeT Try.prog 33 0 = some (0, 8) := by kernel_rfl
@[go_sem] theorem tab_fld33_1 : fldT Try.prog 33 1 = some 8 := by kernel_rfl
@[go_sem] theorem tab_fty33_1 : fldTy Try.prog 33 1 = some (3, 8) := by kernel_rfl
@[go_sem] theorem tab_pl33_1 : placeT Try.prog 33 1 = some (8, 1) := by kernel_rfl
@[go_sem] theorem tab_fld33_2 : fldT Try.prog 33 2 = some 9 := by kernel_rfl
@[go_sem] theorem tab_fty33_2 : fldTy Try.prog 33 2 = some (3, 9) := by kernel_rfl
@[go_sem] theorem tab_pl33_2 : placeT Try.prog 33 2 = some (9, 1) := by kernel_rfl
@[go_sem] theorem tab_row34 : rowT Try.prog 34 = some true := by kernel_rfl
@[go_sem] theorem tab_size34 : sizeT Try.prog 34 = some 7 := by kernel_rfl
@[go_sem] theorem tab_conc34 : Program.concrete Try.prog 34 = true := by kernel_rfl
@[go_sem] theorem tab_lay34 : layE Try.prog 34 = some (7, 72, [.int .i64 0, .bool false, .int .i64 0, .int .i64 0, .int .i64 0, .int .i64 0, .sl true []]) := by kernel_rfl
@[go_sem] theorem tab_known34 : knownT Try.prog 34 = true := by kernel_rfl
@[go_sem] theorem tab_fld34_0 : fldT Try.prog 34 0 = some 0 := by kernel_rfl
@[go_sem] theorem tab_fty34_0 : fldTy Try.prog 34 0 = some (3, 0) := by kernel_rfl
@[go_sem] theorem tab_pl34_0 : placeT Try.prog 34 0 = some (0, 1) := by kernel_rfl
@[go_sem] theorem tab_fld34_1 : fldT Try.prog 34 1 = some 1 := by kernel_rfl
@[go_sem] theorem tab_fty34_1 : fldTy Try.prog 34 1 = some (4, 1) := by kernel_rfl
@[go_sem] theorem tab_pl34_1 : placeT Try.prog 34 1 = some (1, 1) := by kernel_rfl
@[go_sem] theorem tab_fld34_2 : fldT Try.prog 34 2 = some 2 := by kernel_rfl
@[go_sem] theorem tab_fty34_2 : fldTy Try.prog 34 2 = some (28, 2) := by kernel_rfl
@[go_sem] theorem tab_pl34_2 : placeT Try.prog 34 2 = some (2, 4) := by kernel_rfl
@[go_sem] theorem tab_fld34_3 : fldT Try.prog 34 3 = some 6 := by kernel_rfl
@[go_sem] theorem tab_fty34_3 : fldTy Try.prog 34 3 = some (29, 6) := by kernel_rfl
@[go_sem] theorem tab_pl34_3 : placeT Try.prog 34 3 = some (6, 1) := by kernel_rfl
@[go_sem] theorem tab_row35 : rowT Try.prog 35 = some true := by kernel_rfl
@[go_sem] theorem tab_size35 : sizeT Try.prog 35 = some 7 := by kernel_rfl
@[go_sem] theorem tab_conc35 : Program.concrete Try.prog 35 = true := by kernel_rfl
@[go_sem] theorem tab_lay35 : layE Try.prog 35 = some (7, 72, [.int .i64 0, .bool false, .int .i64 0, .int .i64 0, .int .i64 0, .int .i64 0, .sl true []]) := by kernel_rfl
@[go_sem] theorem tab_known35 : knownT Try.prog 35 = true := by kernel_rfl
@[go_sem] theorem tab_fld35_0 : fldT Try.prog 35 0 = some 0 := by kernel_rfl
@[go_sem] theorem tab_fty35_0 : fldTy Try.prog 35 0 = some (3, 0) := by kernel_rfl
@[go_sem] theorem tab_pl35_0 : placeT Try.prog 35 0 = some (0, 1) := by kernel_rfl
@[go_sem] theorem tab_fld35_1 : fldT Try.prog 35 1 = some 1 := by kernel_rfl
@[go_sem] theorem tab_fty35_1 : fldTy Try.prog 35 1 = some (4, 1) := by kernel_rfl
@[go_sem] theorem tab_pl35_1 : placeT Try.prog 35 1 = some (1, 1) := by kernel_rfl
@[go_sem] theorem tab_fld35_2 : fldT Try.prog 35 2 = some 2 := by kernel_rfl
@[go_sem] theorem tab_fty35_2 : fldTy Try.prog 35 2 = some (28, 2) := by kernel_rfl
@[go_sem] theorem tab_pl35_2 : placeT Try.prog 35 2 = some (2, 4) := by kernel_rfl
@[go_sem] theorem tab_fld35_3 : fldT Try.prog 35 3 = some 6 := by kernel_rfl
@[go_sem] theorem tab_fty35_3 : fldTy Try.prog 35 3 = some (29, 6) := by kernel_rfl
@[go_sem] theorem tab_pl35_3 : placeT Try.prog 35 3 = some (6, 1) := by kernel_rfl
@[go_sem] theorem tab_row36 : rowT Try.prog 36 = some false := by kernel_rfl
@[go_sem] theorem tab_size36 : sizeT Try.prog 36 = some 1 := by kernel_rfl
@[go_sem] theorem tab_elem36 : elemT Try.prog 36 = some 31 := by kernel_rfl
@[go_sem] theorem tab_k36 : kT Try.prog 36 = .sl 31 := by kernel_rfl
@[go_sem] theorem tab_src36 : srcT Try.prog 36 = true := by kernel_rfl
@[go_sem] theorem tab_conc36 : Program.concrete Try.prog 36 = true := by kernel_rfl
@[go_sem] theorem tab_lay36 : layE Try.prog 36 = some (1, 24, [.sl true []]) := by kernel_rfl
@[go_sem] theorem tab_row37 : rowT Try.prog 37 = some false := by kernel_rfl
@[go_sem] theorem tab_size37 : sizeT Try.prog 37 = some 1 := by kernel_rfl
@[go_sem] theorem tab_elem37 : elemT Try.prog 37 = some 3 := by kernel_rfl
@[go_sem] theorem tab_k37 : kT Try.prog 37 = .sl 3 := by kernel_rfl
@[go_sem] theorem tab_src37 : srcT Try.prog 37 = true := by kernel_rfl
@[go_sem] theorem tab_conc37 : Program.concrete Try.prog 37 = true := by kernel_rfl
@[go_sem] theorem tab_lay37 : layE Try.prog 37 = some (1, 24, [.sl true []]) := by kernel_rfl
@[go_sem] theorem tab_row38 : rowT Try.prog 38 = some false := by kernel_rfl
@[go_sem] theorem tab_size38 : sizeT Try.prog 38 = some 1 := by kernel_rfl
@[go_sem] theorem tab_int38 : intT Try.prog 38 = some .u64 := by kernel_rfl
@[go_sem] theorem tab_conc38 : Program.concrete Try.prog 38 = true := by kernel_rfl
@[go_sem] theorem tab_lay38 : layE Try.prog 38 = some (1, 8, [.int .u64 0]) := by kernel_rfl
@[go_sem] theorem tab_row39 : rowT Try.prog 39 = some true := by kernel_rfl
@[go_sem] theorem tab_size39 : sizeT Try.prog 39 = some 2 := by kernel_rfl
@[go_sem] theorem tab_conc39 : Program.concrete Try.prog 39 = true := by kernel_rfl
@[go_sem] theorem tab_lay39 : layE Try.prog 39 = some (2, 16, [.int .i64 0, .int .u64 0]) := by kernel_rfl
@[go_sem] theorem tab_known39 : knownT Try.prog 39 = true := by kernel_rfl
@[go_sem] theorem tab_fld39_0 : fldT Try.prog 39 0 = some 0 := by kernel_rfl
@[go_sem] theorem tab_fty39_0 : fldTy Try.prog 39 0 = some (3, 0) := by kernel_rfl
@[go_sem] theorem tab_pl39_0 : placeT Try.prog 39 0 = some (0, 1) := by kernel_rfl
@[go_sem] theorem tab_fld39_1 : fldT Try.prog 39 1 = some 1 := by kernel_rfl
@[go_sem] theorem tab_fty39_1 : fldTy Try.prog 39 1 = some (38, 1) := by kernel_rfl
@[go_sem] theorem tab_pl39_1 : placeT Try.prog 39 1 = some (1, 1) := by kernel_rfl
@[go_sem] theorem tab_row40 : rowT Try.prog 40 = some true := by kernel_rfl
@[go_sem] theorem tab_size40 : sizeT Try.prog 40 = some 2 := by kernel_rfl
@[go_sem] theorem tab_conc40 : Program.concrete Try.prog 40 = true := by kernel_rfl
@[go_sem] theorem tab_lay40 : layE Try.prog 40 = some (2, 16, [.int .i64 0, .int .u64 0]) := by kernel_rfl
@[go_sem] theorem tab_known40 : knownT Try.prog 40 = true := by kernel_rfl
@[go_sem] theorem tab_fld40_0 : fldT Try.prog 40 0 = some 0 := by kernel_rfl
@[go_sem] theorem tab_fty40_0 : fldTy Try.prog 40 0 = some (3, 0) := by kernel_rfl
@[go_sem] theorem tab_pl40_0 : placeT Try.prog 40 0 = some (0, 1) := by kernel_rfl
@[go_sem] theorem tab_fld40_1 : fldT Try.prog 40 1 = some 1 := by kernel_rfl
@[go_sem] theorem tab_fty40_1 : fldTy Try.prog 40 1 = some (38, 1) := by kernel_rfl
@[go_sem] theorem tab_pl40_1 : placeT Try.prog 40 1 = some (1, 1) := by kernel_rfl
@[go_sem] theorem tab_cells40 : cellsT Try.prog 40 = some [3, 38] := by kernel_rfl
@[go_sem] theorem tab_row41 : rowT Try.prog 41 = some true := by kernel_rfl
@[go_sem] theorem tab_size41 : sizeT Try.prog 41 = some 4 := by kernel_rfl
@[go_sem] theorem tab_conc41 : Program.concrete Try.prog 41 = true := by kernel_rfl
@[go_sem] theorem tab_lay41 : layE Try.prog 41 = some (4, 32, [.int .i64 0, .int .u64 0, .int .i64 0, .int .i64 0]) := by kernel_rfl
@[go_sem] theorem tab_known41 : knownT Try.prog 41 = true := by kernel_rfl
@[go_sem] theorem tab_fld41_0 : fldT Try.prog 41 0 = some 0 := by kernel_rfl
@[go_sem] theorem tab_fty41_0 : fldTy Try.prog 41 0 = some (40, 0) := by kernel_rfl
@[go_sem] theorem tab_pl41_0 : placeT Try.prog 41 0 = some (0, 2) := by kernel_rfl
@[go_sem] theorem tab_fld41_1 : fldT Try.prog 41 1 = some 2 := by kernel_rfl
@[go_sem] theorem tab_fty41_1 : fldTy Try.prog 41 1 = some (3, 2) := by kernel_rfl
@[go_sem] theorem tab_pl41_1 : placeT Try.prog 41 1 = some (2, 1) := by kernel_rfl
@[go_sem] theorem tab_fld41_2 : fldT Try.prog 41 2 = some 3 := by kernel_rfl
@[go_sem] theorem tab_fty41_2 : fldTy Try.prog 41 2 = some (3, 3) := by kernel_rfl
@[go_sem] theorem tab_pl41_2 : placeT Try.prog 41 2 = some (3, 1) := by kernel_rfl
@[go_sem] theorem tab_row42 : rowT Try.prog 42 = some true := by kernel_rfl
@[go_sem] theorem tab_size42 : sizeT Try.prog 42 = some 4 := by kernel_rfl
@[go_sem] theorem tab_conc42 : Program.concrete Try.prog 42 = true := by kernel_rfl
@[go_sem] theorem tab_lay42 : layE Try.prog 42 = some (4, 32, [.int .i64 0, .int .u64 0, .int .i64 0, .int .i64 0]) := by kernel_rfl
@[go_sem] theorem tab_known42 : knownT Try.prog 42 = true := by kernel_rfl
@[go_sem] theorem tab_fld42_0 : fldT Try.prog 42 0 = some 0 := by kernel_rfl
@[go_sem] theorem tab_fty42_0 : fldTy Try.prog 42 0 = some (40, 0) := by kernel_rfl
@[go_sem] theorem tab_pl42_0 : placeT Try.prog 42 0 = some (0, 2) := by kernel_rfl
@[go_sem] theorem tab_fld42_1 : fldT Try.prog 42 1 = some 2 := by kernel_rfl
@[go_sem] theorem tab_fty42_1 : fldTy Try.prog 42 1 = some (3, 2) := by kernel_rfl
@[go_sem] theorem tab_pl42_1 : placeT Try.prog 42 1 = some (2, 1) := by kernel_rfl
@[go_sem] theorem tab_fld42_2 : fldT Try.prog 42 2 = some 3 := by kernel_rfl
@[go_sem] theorem tab_fty42_2 : fldTy Try.prog 42 2 = some (3, 3) := by kernel_rfl
@[go_sem] theorem tab_pl42_2 : placeT Try.prog 42 2 = some (3, 1) := by kernel_rfl
@[go_sem] theorem tab_row43 : rowT Try.prog 43 = some true := by kernel_rfl
@[go_sem] theorem tab_size43 : sizeT Try.prog 43 = some 8 := by kernel_rfl
@[go_sem] theorem tab_conc43 : Program.concrete Try.prog 43 = true := by kernel_rfl
@[go_sem] theorem tab_lay43 : layE Try.prog 43 = some (8, 112, [.sl true [], .sl true [], .sl true [], .int .i64 0, .int .u64 0, .int .i64 0, .int .i64 0, .int .i64 0]) := by kernel_rfl
@[go_sem] theorem tab_known43 : knownT Try.prog 43 = true := by kernel_rfl
@[go_sem] theorem tab_fld43_0 : fldT Try.prog 43 0 = some 0 := by kernel_rfl
@[go_sem] theorem tab_fty43_0 : fldTy Try.prog 43 0 = some (37, 0) := by kernel_rfl
@[go_sem] theorem tab_pl43_0 : placeT Try.prog 43 0 = some (0, 1) := by kernel_rfl
@[go_sem] theorem tab_fld43_1 : fldT Try.prog 43 1 = some 1 := by kernel_rfl
@[go_sem] theorem tab_fty43_1 : fldTy Try.prog 43 1 = some (37, 1) := by kernel_rfl
@[go_sem] theorem tab_pl43_1 : placeT Try.prog 43 1 = some (1, 1) := by kernel_rfl
@[go_sem] theorem tab_fld43_2 : fldT Try.prog 43 2 = some 2 := by kernel_rfl
@[go_sem] theorem tab_fty43_2 : fldTy Try.prog 43 2 = some (37, 2) := by kernel_rfl
@[go_sem] theorem tab_pl43_2 : placeT Try.prog 43 2 = some (2, 1) := by kernel_rfl
@[go_sem] theorem tab_fld43_3 : fldT Try.prog 43 3 = some 3 := by kernel_rfl
@[go_sem] theorem tab_fty43_3 : fldTy Try.prog 43 3 = some (42, 3) := by kernel_rfl
@[go_sem] theorem tab_pl43_3 : placeT Try.prog 43 3 = some (3, 4) := by kernel_rfl
@[go_sem] theorem tab_fld43_4 : fldT Try.prog 43 4 = some 7 := by kernel_rfl
@[go_sem] theorem tab_fty43_4 : fldTy Try.prog 43 4 = some (3, 7) := by kernel_rfl
@[go_sem] theorem tab_pl43_4 : placeT Try.prog 43 4 = some (7, 1) := by kernel_rfl
@[go_sem] theorem tab_row44 : rowT Try.prog 44 = some true := by kernel_rfl
@[go_sem] theorem tab_size44 : sizeT Try.prog 44 = some 8 := by kernel_rfl
@[go_sem] theorem tab_conc44 : Program.concrete Try.prog 44 = true := by kernel_rfl
@[go_sem] theorem tab_lay44 : layE Try.prog 44 = some (8, 112, [.sl true [], .sl true [], .sl true [], .int .i64 0, .int .u64 0, .int .i64 0, .int .i64 0, .int .i64 0]) := by kernel_rfl
@[go_sem] theorem tab_known44 : knownT Try.prog 44 = true := by kernel_rfl
@[go_sem] theorem tab_fld44_0 : fldT Try.prog 44 0 = some 0 := by kernel_rfl
@[go_sem] theorem tab_fty44_0 : fldTy Try.prog 44 0 = some (37, 0) := by kernel_rfl
@[go_sem] theorem tab_pl44_0 : placeT Try.prog 44 0 = some (0, 1) := by kernel_rfl
@[go_sem] theorem tab_fld44_1 : fldT Try.prog 44 1 = some 1 := by kernel_rfl
@[go_sem] theorem tab_fty44_1 : fldTy Try.prog 44 1 = some (37, 1) := by kernel_rfl
@[go_sem] theorem tab_pl44_1 : placeT Try.prog 44 1 = some (1, 1) := by kernel_rfl
@[go_sem] theorem tab_fld44_2 : fldT Try.prog 44 2 = some 2 := by kernel_rfl
@[go_sem] theorem tab_fty44_2 : fldTy Try.prog 44 2 = some (37, 2) := by kernel_rfl
@[go_sem] theorem tab_pl44_2 : placeT Try.prog 44 2 = some (2, 1) := by kernel_rfl
@[go_sem] theorem tab_fld44_3 : fldT Try.prog 44 3 = some 3 := by kernel_rfl
@[go_sem] theorem tab_fty44_3 : fldTy Try.prog 44 3 = some (42, 3) := by kernel_rfl
@[go_sem] theorem tab_pl44_3 : placeT Try.prog 44 3 = some (3, 4) := by kernel_rfl
@[go_sem] theorem tab_fld44_4 : fldT Try.prog 44 4 = some 7 := by kernel_rfl
@[go_sem] theorem tab_fty44_4 : fldTy Try.prog 44 4 = some (3, 7) := by kernel_rfl
@[go_sem] theorem tab_pl44_4 : placeT Try.prog 44 4 = some (7, 1) := by kernel_rfl
@[go_sem] theorem tab_row45 : rowT Try.prog 45 = some true := by kernel_rfl
@[go_sem] theorem tab_size45 : sizeT Try.prog 45 = some 3 := by kernel_rfl
@[go_sem] theorem tab_conc45 : Program.concrete Try.prog 45 = true := by kernel_rfl
@[go_sem] theorem tab_lay45 : layE Try.prog 45 = some (3, 56, [.int .i64 0, .sl true [], .sl true []]) := by kernel_rfl
@[go_sem] theorem tab_known45 : knownT Try.prog 45 = true := by kernel_rfl
@[go_sem] theorem tab_fld45_0 : fldT Try.prog 45 0 = some 0 := by kernel_rfl
@[go_sem] theorem tab_fty45_0 : fldTy Try.prog 45 0 = some (3, 0) := by kernel_rfl
@[go_sem] theorem tab_pl45_0 : placeT Try.prog 45 0 = some (0, 1) := by kernel_rfl
@[go_sem] theorem tab_fld45_1 : fldT Try.prog 45 1 = some 1 := by kernel_rfl
@[go_sem] theorem tab_fty45_1 : fldTy Try.prog 45 1 = some (37, 1) := by kernel_rfl
@[go_sem] theorem tab_pl45_1 : placeT Try.prog 45 1 = some (1, 1) := by kernel_rfl
@[go_sem] theorem tab_fld45_2 : fldT Try.prog 45 2 = some 2 := by kernel_rfl
@[go_sem] theorem tab_fty45_2 : fldTy Try.prog 45 2 = some (37, 2) := by kernel_rfl
@[go_sem] theorem tab_pl45_2 : placeT Try.prog 45 2 = some (2, 1) := by kernel_rfl
@[go_sem] theorem tab_row46 : rowT Try.prog 46 = some true := by kernel_rfl
@[go_sem] theorem tab_size46 : sizeT Try.prog 46 = some 3 := by kernel_rfl
@[go_sem] theorem tab_conc46 : Program.concrete Try.prog 46 = true := by kernel_rfl
@[go_sem] theorem tab_lay46 : layE Try.prog 46 = some (3, 56, [.int .i64 0, .sl true [], .sl true []]) := by kernel_rfl
@[go_sem] theorem tab_known46 : knownT Try.prog 46 = true := by kernel_rfl
@[go_sem] theorem tab_fld46_0 : fldT Try.prog 46 0 = some 0 := by kernel_rfl
@[go_sem] theorem tab_fty46_0 : fldTy Try.prog 46 0 = some (3, 0) := by kernel_rfl
@[go_sem] theorem tab_pl46_0 : placeT Try.prog 46 0 = some (0, 1) := by kernel_rfl
@[go_sem] theorem tab_fld46_1 : fldT Try.prog 46 1 = some 1 := by kernel_rfl
@[go_sem] theorem tab_fty46_1 : fldTy Try.prog 46 1 = some (37, 1) := by kernel_rfl
@[go_sem] theorem tab_pl46_1 : placeT Try.prog 46 1 = some (1, 1) := by kernel_rfl
@[go_sem] theorem tab_fld46_2 : fldT Try.prog 46 2 = some 2 := by kernel_rfl
@[go_sem] theorem tab_fty46_2 : fldTy Try.prog 46 2 = some (37, 2) := by kernel_rfl
@[go_sem] theorem tab_pl46_2 : placeT Try.prog 46 2 = some (2, 1) := by kernel_rfl
@[go_sem] theorem tab_row47 : rowT Try.prog 47 = some false := by kernel_rfl
@[go_sem] theorem tab_size47 : sizeT Try.prog 47 = some 1 := by kernel_rfl
@[go_sem] theorem tab_elem47 : elemT Try.prog 47 = some 104 := by kernel_rfl
@[go_sem] theorem tab_k47 : kT Try.prog 47 = .sl 104 := by kernel_rfl
@[go_sem] theorem tab_src47 : srcT Try.prog 47 = true := by kernel_rfl
@[go_sem] theorem tab_conc47 : Program.concrete Try.prog 47 = true := by kernel_rfl
@[go_sem] theorem tab_lay47 : layE Try.prog 47 = some (1, 24, [.sl true []]) := by kernel_rfl
@[go_sem] theorem tab_row48 : rowT Try.prog 48 = some false := by kernel_rfl
@[go_sem] theorem tab_size48 : sizeT Try.prog 48 = some 1 := by kernel_rfl
@[go_sem] theorem tab_elem48 : elemT Try.prog 48 = some 9 := by kernel_rfl
@[go_sem] theorem tab_k48 : kT Try.prog 48 = .sl 9 := by kernel_rfl
@[go_sem] theorem tab_src48 : srcT Try.prog 48 = true := by kernel_rfl
@[go_sem] theorem tab_conc48 : Program.concrete Try.prog 48 = true := by kernel_rfl
@[go_sem] theorem tab_lay48 : layE Try.prog 48 = some (1, 24, [.sl true []]) := by kernel_rfl
@[go_sem] theorem tab_row49 : rowT Try.prog 49 = some true := by kernel_rfl
@[go_sem] theorem tab_size49 : sizeT Try.prog 49 = some 2 := by kernel_rfl
@[go_sem] theorem tab_conc49 : Program.concrete Try.prog 49 = true := by kernel_rfl
@[go_sem] theorem tab_lay49 : layE Try.prog 49 = some (2, 48, [.sl true [], .sl true []]) := by kernel_rfl
@[go_sem] theorem tab_known49 : knownT Try.prog 49 = true := by kernel_rfl
@[go_sem] theorem tab_fld49_0 : fldT Try.prog 49 0 = some 0 := by kernel_rfl
@[go_sem] theorem tab_fty49_0 : fldTy Try.prog 49 0 = some (47, 0) := by kernel_rfl
@[go_sem] theorem tab_pl49_0 : placeT Try.prog 49 0 = some (0, 1) := by kernel_rfl
@[go_sem] theorem tab_fld49_1 : fldT Try.prog 49 1 = some 1 := by kernel_rfl
@[go_sem] theorem tab_fty49_1 : fldTy Try.prog 49 1 = some (48, 1) := by kernel_rfl
@[go_sem] theorem tab_pl49_1 : placeT Try.prog 49 1 = some (1, 1) := by kernel_rfl
@[go_sem] theorem tab_row50 : rowT Try.prog 50 = some true := by kernel_rfl
@[go_sem] theorem tab_size50 : sizeT Try.prog 50 = some 2 := by kernel_rfl
@[go_sem] theorem tab_conc50 : Program.concrete Try.prog 50 = true := by kernel_rfl
@[go_sem] theorem tab_lay50 : layE Try.prog 50 = some (2, 48, [.sl true [], .sl true []]) := by kernel_rfl
@[go_sem] theorem tab_known50 : knownT Try.prog 50 = true := by kernel_rfl
@[go_sem] theorem tab_fld50_0 : fldT Try.prog 50 0 = some 0 := by kernel_rfl
@[go_sem] theorem tab_fty50_0 : fldTy Try.prog 50 0 = some (47, 0) := by kernel_rfl
@[go_sem] theorem tab_pl50_0 : placeT Try.prog 50 0 = some (0, 1) := by kernel_rfl
@[go_sem] theorem tab_fld50_1 : fldT Try.prog 50 1 = some 1 := by kernel_rfl
@[go_sem] theorem tab_fty50_1 : fldTy Try.prog 50 1 = some (48, 1) := by kernel_rfl
@[go_sem] theorem tab_pl50_1 : placeT Try.prog 50 1 = some (1, 1) := by kernel_rfl
@[go_sem] theorem tab_row51 : rowT Try.prog 51 = some true := by kernel_rfl
@[go_sem] theorem tab_size51 : sizeT Try.prog 51 = some 17 := by kernel_rfl
@[go_sem] theorem tab_conc51 : Program.concrete Try.prog 51 = true := by kernel_rfl
@[go_sem] theorem tab_lay51 : layE Try.prog 51 = some (17, 264, [.int .i64 0, .int .i64 0, .int .i64 0, .sl true [], .sl true [], .sl true [], .sl true [], .int .i64 0, .int .u64 0, .int .i64 0, .int .i64 0, .int .i64 0, .int .i64 0, .sl true [], .sl true [], .sl true [], .sl true []]) := by kernel_rfl
@[go_sem] theorem tab_known51 : knownT Try.prog 51 = true := by kernel_rfl
@[go_sem] theorem tab_fld51_0 : fldT Try.prog 51 0 = some 0 := by kernel_rfl
@[go_sem] theorem tab_fty51_0 : fldTy Try.prog 51 0 = some (3, 0) := by kernel_rfl
@[go_sem] theorem tab_pl51_0 : placeT Try.prog 51 0 = some (0, 1) := by kernel_rfl
@[go_sem] theorem tab_fld51_1 : fldT Try.prog 51 1 = some 1 := by kernel_rfl
@[go_sem] theorem tab_fty51_1 : fldTy Try.prog 51 1 = some (3, 1) := by kernel_rfl
@[go_sem] theorem tab_pl51_1 : placeT Try.prog 51 1 = some (1, 1) := by kernel_rfl
@[go_sem] theorem tab_fld51_2 : fldT Try.prog 51 2 = some 2 := by kernel_rfl
@[go_sem] theorem tab_fty51_2 : fldTy Try.prog 51 2 = some (3, 2) := by kernel_rfl
@[go_sem] theorem tab_pl51_2 : placeT Try.prog 51 2 = some (2, 1) := by kernel_rfl
@[go_sem] theorem tab_fld51_3 : fldT Try.prog 51 3 = some 3 := by kernel_rfl
@[go_sem] theorem tab_fty51_3 : fldTy Try.prog 51 3 = some (36, 3) := by kernel_rfl
@[go_sem] theorem tab_pl51_3 : placeT Try.prog 51 3 = some (3, 1) := by kernel_rfl
@[go_sem] theorem tab_fld51_4 : fldT Try.prog 51 4 = some 4 := by kernel_rfl
@[go_sem] theorem tab_fty51_4 : fldTy Try.prog 51 4 = some (44, 4) := by kernel_rfl
@[go_sem] theorem tab_pl51_4 : placeT Try.prog 51 4 = some (4, 8) := by kernel_rfl
@[go_sem] theorem tab_fld51_5 : fldT Try.prog 51 5 = some 12 := by kernel_rfl
@[go_sem] theorem tab_fty51_5 : fldTy Try.prog 51 5 = some (46, 12) := by kernel_rfl
@[go_sem] theorem tab_pl51_5 : placeT Try.prog 51 5 = some (12, 3) := by kernel_rfl
@[go_sem] theorem tab_fld51_6 : fldT Try.prog 51 6 = some 15 := by kernel_rfl
@[go_sem] theorem tab_fty51_6 : fldTy Try.prog 51 6 = some (50, 15) := by kernel_rfl
@[go_sem] theorem tab_pl51_6 : placeT Try.prog 51 6 = some (15, 2) := by kernel_rfl
@[go_sem] theorem tab_row52 : rowT Try.prog 52 = some true := by kernel_rfl
@[go_sem] theorem tab_size52 : sizeT Try.prog 52 = some 17 := by kernel_rfl
@[go_sem] theorem tab_conc52 : Program.concrete Try.prog 52 = true := by kernel_rfl
@[go_sem] theorem tab_lay52 : layE Try.prog 52 = some (17, 264, [.int .i64 0, .int .i64 0, .int .i64 0, .sl true [], .sl true [], .sl true [], .sl true [], .int .i64 0, .int .u64 0, .int .i64 0, .int .i64 0, .int .i64 0, .int .i64 0, .sl true [], .sl true [], .sl true [], .sl true []]) := by kernel_rfl
@[go_sem] theorem tab_known52 : knownT Try.prog 52 = true := by kernel_rfl
@[go_sem] theorem tab_fld52_0 : fldT Try.prog 52 0 = some 0 := by kernel_rfl
@[go_sem] theorem tab_fty52_0 : fldTy Try.prog 52 0 = some (3, 0) := by kernel_rfl
@[go_sem] theorem tab_pl52_0 : placeT Try.prog 52 0 = some (0, 1) := by kernel_rfl
@[go_sem] theorem tab_fld52_1 : fldT Try.prog 52 1 = some 1 := by kernel_rfl
@[go_sem] theorem tab_fty52_1 : fldTy Try.prog 52 1 = some (3, 1) := by kernel_rfl
@[go_sem] theorem tab_pl52_1 : placeT Try.prog 52 1 = some (1, 1) := by kernel_rfl
@[go_sem] theorem tab_fld52_2 : fldT Try.prog 52 2 = some 2 := by kernel_rfl
@[go_sem] theorem tab_fty52_2 : fldTy Try.prog 52 2 = some (3, 2) := by kernel_rfl
@[go_sem] theorem tab_pl52_2 : placeT Try.prog 52 2 = some (2, 1) := by kernel_rfl
@[go_sem] theorem tab_fld52_3 : fldT Try.prog 52 3 = some 3 := by kernel_rfl
@[go_sem] theorem tab_fty52_3 : fldTy Try.prog 52 3 = some (36, 3) := by kernel_rfl
@[go_sem] theorem tab_pl52_3 : placeT Try.prog 52 3 = some (3, 1) := by kernel_rfl
@[go_sem] theorem tab_fld52_4 : fldT Try.prog 52 4 = some 4 := by kernel_rfl
@[go_sem] theorem tab_fty52_4 : fldTy Try.prog 52 4 = some (44, 4) := by kernel_rfl
@[go_sem] theorem tab_pl52_4 : placeT Try.prog 52 4 = some (4, 8) := by kernel_rfl
@[go_sem] theorem tab_fld52_5 : fldT Try.prog 52 5 = some 12 := by kernel_rfl
@[go_sem] theorem tab_fty52_5 : fldTy Try.prog 52 5 = some (46, 12) := by kernel_rfl
@[go_sem] theorem tab_pl52_5 : placeT Try.prog 52 5 = some (12, 3) := by kernel_rfl
@[go_sem] theorem tab_fld52_6 : fldT Try.prog 52 6 = some 15 := by kernel_rfl
@[go_sem] theorem tab_fty52_6 : fldTy Try.prog 52 6 = some (50, 15) := by kernel_rfl
@[go_sem] theorem tab_pl52_6 : placeT Try.prog 52 6 = some (15, 2) := by kernel_rfl
@[go_sem] theorem tab_row53 : rowT Try.prog 53 = some true := by kernel_rfl
@[go_sem] theorem tab_size53 : sizeT Try.prog 53 = some 38 := by kernel_rfl
@[go_sem] theorem tab_conc53 : Program.concrete Try.prog 53 = true := by kernel_rfl
@[go_sem] theorem tab_lay53 : layE Try.prog 53 = some (38, 480, [.int .i64 0, .int .i64 0, .int .i64 0, .str ⟨#[]⟩, .int .i64 0, .int .i64 0, .int .i64 0, .int .i64 0, .int .i64 0, .sl true [], .int .i64 0, .int .i64 0, .int .i64 0, .str ⟨#[]⟩, .int .i64 0, .bool false, .int .i64 0, .int .i64 0, .int .i64 0, .int .i64 0, .sl true [], .int .i64 0, .int .i64 0, .int .i64 0, .sl true [], .sl true [], .sl true [], .sl true [], .int .i64 0, .int .u64 0, .int .i64 0, .int .i64 0, .int .i64 0, .int .i64 0, .sl true [], .sl true [], .sl true [], .sl true []]) := by kernel_rfl
@[go_sem] theorem tab_known53 : knownT Try.prog 53 = true := by kernel_rfl
@[go_sem] theorem tab_fld53_0 : fldT Try.prog 53 0 = some 0 := by kernel_rfl
@[go_sem] theorem tab_fty53_0 : fldTy Try.prog 53 0 = some (3, 0) := by kernel_rfl
@[go_sem] theorem tab_pl53_0 : placeT Try.prog 53 0 = some (0, 1) := by kernel_rfl
@[go_sem] theorem tab_fld53_1 : fldT Try.prog 53 1 = some 1 := by kernel_rfl
@[go_sem] theorem tab_fty53_1 : fldTy Try.prog 53 1 = some (3, 1) := by kernel_rfl
@[go_sem] theorem tab_pl53_1 : placeT Try.prog 53 1 = some (1, 1) := by kernel_rfl
@[go_sem] theorem tab_fld53_2 : fldT Try.prog 53 2 = some 2 := by kernel_rfl
@[go_sem] theorem tab_fty53_2 : fldTy Try.prog 53 2 = some (33, 2) := by kernel_rfl
@[go_sem] theorem tab_pl53_2 : placeT Try.prog 53 2 = some (2, 10) := by kernel_rfl
@[go_sem] theorem tab_fld53_3 : fldT Try.prog 53 3 = some 12 := by kernel_rfl
@[go_sem] theorem tab_fty53_3 : fldTy Try.prog 53 3 = some (3, 12) := by kernel_rfl
@[go_sem] theorem tab_pl53_3 : placeT Try.prog 53 3 = some (12, 1) := by kernel_rfl
@[go_sem] theorem tab_fld53_4 : fldT Try.prog 53 4 = some 13 := by kernel_rfl
@[go_sem] theorem tab_fty53_4 : fldTy Try.prog 53 4 = some (9, 13) := by kernel_rfl
@[go_sem] theorem tab_pl53_4 : placeT Try.prog 53 4 = some (13, 1) := by kernel_rfl
@[go_sem] theorem tab_fld53_5 : fldT Try.prog 53 5 = some 14 := by kernel_rfl
@[go_sem] theorem tab_fty53_5 : fldTy Try.prog 53 5 = some (35, 14) := by kernel_rfl
@[go_sem] theorem tab_pl53_5 : placeT Try.prog 53 5 = some (14, 7) := by kernel_rfl
@[go_sem] theorem tab_fld53_6 : fldT Try.prog 53 6 = some 21 := by kernel_rfl
@[go_sem] theorem tab_fty53_6 : fldTy Try.prog 53 6 = some (52, 21) := by kernel_rfl
@[go_sem] theorem tab_pl53_6 : placeT Try.prog 53 6 = some (21, 17) := by kernel_rfl
@[go_sem] theorem tab_row54 : rowT Try.prog 54 = some true := by kernel_rfl
@[go_sem] theorem tab_size54 : sizeT Try.prog 54 = some 38 := by kernel_rfl
@[go_sem] theorem tab_conc54 : Program.concrete Try.prog 54 = true := by kernel_rfl
@[go_sem] theorem tab_lay54 : layE Try.prog 54 = some (38, 480, [.int .i64 0, .int .i64 0, .int .i64 0, .str ⟨#[]⟩, .int .i64 0, .int .i64 0, .int .i64 0, .int .i64 0, .int .i64 0, .sl true [], .int .i64 0, .int .i64 0, .int .i64 0, .str ⟨#[]⟩, .int .i64 0, .bool false, .int .i64 0, .int .i64 0, .int .i64 0, .int .i64 0, .sl true [], .int .i64 0, .int .i64 0, .int .i64 0, .sl true [], .sl true [], .sl true [], .sl true [], .int .i64 0, .int .u64 0, .int .i64 0, .int .i64 0, .int .i64 0, .int .i64 0, .sl true [], .sl true [], .sl true [], .sl true []]) := by kernel_rfl
@[go_sem] theorem tab_known54 : knownT Try.prog 54 = true := by kernel_rfl
@[go_sem] theorem tab_fld54_0 : fldT Try.prog 54 0 = some 0 := by kernel_rfl
@[go_sem] theorem tab_fty54_0 : fldTy Try.prog 54 0 = some (3, 0) := by kernel_rfl
@[go_sem] theorem tab_pl54_0 : placeT Try.prog 54 0 = some (0, 1) := by kernel_rfl
@[go_sem] theorem tab_fld54_1 : fldT Try.prog 54 1 = some 1 := by kernel_rfl
@[go_sem] theorem tab_fty54_1 : fldTy Try.prog 54 1 = some (3, 1) := by kernel_rfl
@[go_sem] theorem tab_pl54_1 : placeT Try.prog 54 1 = some (1, 1) := by kernel_rfl
@[go_sem] theorem tab_fld54_2 : fldT Try.prog 54 2 = some 2 := by kernel_rfl
@[go_sem] theorem tab_fty54_2 : fldTy Try.prog 54 2 = some (33, 2) := by kernel_rfl
@[go_sem] theorem tab_pl54_2 : placeT Try.prog 54 2 = some (2, 10) := by kernel_rfl
@[go_sem] theorem tab_fld54_3 : fldT Try.prog 54 3 = some 12 := by kernel_rfl
@[go_sem] theorem tab_fty54_3 : fldTy Try.prog 54 3 = some (3, 12) := by kernel_rfl
@[go_sem] theorem tab_pl54_3 : placeT Try.prog 54 3 = some (12, 1) := by kernel_rfl
@[go_sem] theorem tab_fld54_4 : fldT Try.prog 54 4 = some 13 := by kernel_rfl
@[go_sem] theorem tab_fty54_4 : fldTy Try.prog 54 4 = some (9, 13) := by kernel_rfl
@[go_sem] theorem tab_pl54_4 : placeT Try.prog 54 4 = some (13, 1) := by kernel_rfl
@[go_sem] theorem tab_fld54_5 : fldT Try.prog 54 5 = some 14 := by kernel_rfl
@[go_sem] theorem tab_fty54_5 : fldTy Try.prog 54 5 = some (35, 14) := by kernel_rfl
@[go_sem] theorem tab_pl54_5 : placeT Try.prog 54 5 = some (14, 7) := by kernel_rfl
@[go_sem] theorem tab_fld54_6 : fldT Try.prog 54 6 = some 21 := by kernel_rfl
@[go_sem] theorem tab_fty54_6 : fldTy Try.prog 54 6 = some (52, 21) := by kernel_rfl
@[go_sem] theorem tab_pl54_6 : placeT Try.prog 54 6 = some (21, 17) := by kernel_rfl
@[go_sem] theorem tab_row55 : rowT Try.prog 55 = some false := by kernel_rfl
@[go_sem] theorem tab_size55 : sizeT Try.prog 55 = some 1 := by kernel_rfl
@[go_sem] theorem tab_conc55 : Program.concrete Try.prog 55 = true := by kernel_rfl
@[go_sem] theorem tab_lay55 : layE Try.prog 55 = some (1, 8, [.nilf]) := by kernel_rfl
@[go_sem] theorem tab_row56 : rowT Try.prog 56 = some false := by kernel_rfl
@[go_sem] theorem tab_size56 : sizeT Try.prog 56 = some 1 := by kernel_rfl
@[go_sem] theorem tab_elem56 : elemT Try.prog 56 = some 54 := by kernel_rfl
@[go_sem] theorem tab_k56 : kT Try.prog 56 = .sl 54 := by kernel_rfl
@[go_sem] theorem tab_src56 : srcT Try.prog 56 = true := by kernel_rfl
@[go_sem] theorem tab_conc56 : Program.concrete Try.prog 56 = true := by kernel_rfl
@[go_sem] theorem tab_lay56 : layE Try.prog 56 = some (1, 24, [.sl true []]) := by kernel_rfl
@[go_sem] theorem tab_row57 : rowT Try.prog 57 = some false := by kernel_rfl
@[go_sem] theorem tab_size57 : sizeT Try.prog 57 = some 1 := by kernel_rfl
@[go_sem] theorem tab_int57 : intT Try.prog 57 = some .i64 := by kernel_rfl
@[go_sem] theorem tab_conc57 : Program.concrete Try.prog 57 = true := by kernel_rfl
@[go_sem] theorem tab_lay57 : layE Try.prog 57 = some (1, 8, [.int .i64 0]) := by kernel_rfl
@[go_sem] theorem tab_row58 : rowT Try.prog 58 = some false := by kernel_rfl
@[go_sem] theorem tab_size58 : sizeT Try.prog 58 = some 1 := by kernel_rfl
@[go_sem] theorem tab_row59 : rowT Try.prog 59 = some false := by kernel_rfl
@[go_sem] theorem tab_size59 : sizeT Try.prog 59 = some 1 := by kernel_rfl
@[go_sem] theorem tab_conc59 : Program.concrete Try.prog 59 = true := by kernel_rfl
@[go_sem] theorem tab_lay59 : layE Try.prog 59 = some (1, 8, [.nilf]) := by kernel_rfl
@[go_sem] theorem tab_row60 : rowT Try.prog 60 = some false := by kernel_rfl
@[go_sem] theorem tab_size60 : sizeT Try.prog 60 = some 1 := by kernel_rfl
@[go_sem] theorem tab_conc60 : Program.concrete Try.prog 60 = true := by kernel_rfl
@[go_sem] theorem tab_lay60 : layE Try.prog 60 = some (1, 8, [.nilf]) := by kernel_rfl
@[go_sem] theorem tab_row61 : rowT Try.prog 61 = some false := by kernel_rfl
@[go_sem] theorem tab_size61 : sizeT Try.prog 61 = some 1 := by kernel_rfl
@[go_sem] theorem tab_conc61 : Program.concrete Try.prog 61 = true := by kernel_rfl
@[go_sem] theorem tab_lay61 : layE Try.prog 61 = some (1, 8, [.nilf]) := by kernel_rfl
@[go_sem] theorem tab_row62 : rowT Try.prog 62 = some false := by kernel_rfl
@[go_sem] theorem tab_size62 : sizeT Try.prog 62 = some 1 := by kernel_rfl
@[go_sem] theorem tab_int62 : intT Try.prog 62 = some .u64 := by kernel_rfl
@[go_sem] theorem tab_conc62 : Program.concrete Try.prog 62 = true := by kernel_rfl
@[go_sem] theorem tab_lay62 : layE Try.prog 62 = some (1, 8, [.int .u64 0]) := by kernel_rfl
@[go_sem] theorem tab_row63 : rowT Try.prog 63 = some false := by kernel_rfl
@[go_sem] theorem tab_size63 : sizeT Try.prog 63 = some 1 := by kernel_rfl
@[go_sem] theorem tab_elem63 : elemT Try.prog 63 = some 22 := by kernel_rfl
@[go_sem] theorem tab_k63 : kT Try.prog 63 = .sl 22 := by kernel_rfl
@[go_sem] theorem tab_src63 : srcT Try.prog 63 = true := by kernel_rfl
@[go_sem] theorem tab_conc63 : Program.concrete Try.prog 63 = true := by kernel_rfl
@[go_sem] theorem tab_lay63 : layE Try.prog 63 = some (1, 24, [.sl true []]) := by kernel_rfl
@[go_sem] theorem tab_row64 : rowT Try.prog 64 = some false := by kernel_rfl
@[go_sem] theorem tab_size64 : sizeT Try.prog 64 = some 1 := by kernel_rfl
@[go_sem] theorem tab_row65 : rowT Try.prog 65 = some false := by kernel_rfl
@[go_sem] theorem tab_size65 : sizeT Try.prog 65 = some 1 := by kernel_rfl
@[go_sem] theorem tab_conc65 : Program.concrete Try.prog 65 = true := by kernel_rfl
@[go_sem] theorem tab_lay65 : layE Try.prog 65 = some (1, 8, [.nilf]) := by kernel_rfl
@[go_sem] theorem tab_row66 : rowT Try.prog 66 = some false := by kernel_rfl
@[go_sem] theorem tab_size66 : sizeT Try.prog 66 = some 1 := by kernel_rfl
@[go_sem] theorem tab_conc66 : Program.concrete Try.prog 66 = true := by kernel_rfl
@[go_sem] theorem tab_lay66 : layE Try.prog 66 = some (1, 8, [.nilf]) := by kernel_rfl
@[go_sem] theorem tab_row67 : rowT Try.prog 67 = some false := by kernel_rfl
@[go_sem] theorem tab_size67 : sizeT Try.prog 67 = some 1 := by kernel_rfl
@[go_sem] theorem tab_conc67 : Program.concrete Try.prog 67 = true := by kernel_rfl
@[go_sem] theorem tab_lay67 : layE Try.prog 67 = some (1, 8, [.nilf]) := by kernel_rfl
@[go_sem] theorem tab_row68 : rowT Try.prog 68 = some false := by kernel_rfl
@[go_sem] theorem tab_size68 : sizeT Try.prog 68 = some 1 := by kernel_rfl
@[go_sem] theorem tab_conc68 : Program.concrete Try.prog 68 = true := by kernel_rfl
@[go_sem] theorem tab_lay68 : layE Try.prog 68 = some (1, 8, [.nilf]) := by kernel_rfl
@[go_sem] theorem tab_row69 : rowT Try.prog 69 = some false := by kernel_rfl
@[go_sem] theorem tab_size69 : sizeT Try.prog 69 = some 1 := by kernel_rfl
@[go_sem] theorem tab_conc69 : Program.concrete Try.prog 69 = true := by kernel_rfl
@[go_sem] theorem tab_lay69 : layE Try.prog 69 = some (1, 8, [.nilf]) := by kernel_rfl
@[go_sem] theorem tab_row70 : rowT Try.prog 70 = some false := by kernel_rfl
@[go_sem] theorem tab_size70 : sizeT Try.prog 70 = some 1 := by kernel_rfl
@[go_sem] theorem tab_row71 : rowT Try.prog 71 = some false := by kernel_rfl
@[go_sem] theorem tab_size71 : sizeT Try.prog 71 = some 1 := by kernel_rfl
@[go_sem] theorem tab_conc71 : Program.concrete Try.prog 71 = true := by kernel_rfl
@[go_sem] theorem tab_lay71 : layE Try.prog 71 = some (1, 8, [.nilf]) := by kernel_rfl
@[go_sem] theorem tab_row72 : rowT Try.prog 72 = some false := by kernel_rfl
@[go_sem] theorem tab_size72 : sizeT Try.prog 72 = some 1 := by kernel_rfl
@[go_sem] theorem tab_conc72 : Program.concrete Try.prog 72 = true := by kernel_rfl
@[go_sem] theorem tab_lay72 : layE Try.prog 72 = some (1, 8, [.nilf]) := by kernel_rfl
@[go_sem] theorem tab_row73 : rowT Try.prog 73 = some false := by kernel_rfl
@[go_sem] theorem tab_size73 : sizeT Try.prog 73 = some 1 := by kernel_rfl
@[go_sem] theorem tab_conc73 : Program.concrete Try.prog 73 = true := by kernel_rfl
@[go_sem] theorem tab_lay73 : layE Try.prog 73 = some (1, 8, [.nilf]) := by kernel_rfl
@[go_sem] theorem tab_row74 : rowT Try.prog 74 = some true := by kernel_rfl
@[go_sem] theorem tab_size74 : sizeT Try.prog 74 = some 2 := by kernel_rfl
@[go_sem] theorem tab_conc74 : Program.concrete Try.prog 74 = true := by kernel_rfl
@[go_sem] theorem tab_lay74 : layE Try.prog 74 = some (2, 32, [.sl true [], .int .i64 0]) := by kernel_rfl
@[go_sem] theorem tab_known74 : knownT Try.prog 74 = true := by kernel_rfl
@[go_sem] theorem tab_fld74_0 : fldT Try.prog 74 0 = some 0 := by kernel_rfl
@[go_sem] theorem tab_fty74_0 : fldTy Try.prog 74 0 = some (22, 0) := by kernel_rfl
@[go_sem] theorem tab_pl74_0 : placeT Try.prog 74 0 = some (0, 1) := by kernel_rfl
@[go_sem] theorem tab_fld74_1 : fldT Try.prog 74 1 = some 1 := by kernel_rfl
@[go_sem] theorem tab_fty74_1 : fldTy Try.prog 74 1 = some (3, 1) := by kernel_rfl
@[go_sem] theorem tab_pl74_1 : placeT Try.prog 74 1 = some (1, 1) := by kernel_rfl
@[go_sem] theorem tab_row75 : rowT Try.prog 75 = some true := by kernel_rfl
@[go_sem] theorem tab_size75 : sizeT Try.prog 75 = some 2 := by kernel_rfl
@[go_sem] theorem tab_conc75 : Program.concrete Try.prog 75 = true := by kernel_rfl
@[go_sem] theorem tab_lay75 : layE Try.prog 75 = some (2, 32, [.sl true [], .int .i64 0]) := by kernel_rfl
@[go_sem] theorem tab_known75 : knownT Try.prog 75 = true := by kernel_rfl
@[go_sem] theorem tab_fld75_0 : fldT Try.prog 75 0 = some 0 := by kernel_rfl
@[go_sem] theorem tab_fty75_0 : fldTy Try.prog 75 0 = some (22, 0) := by kernel_rfl
@[go_sem] theorem tab_pl75_0 : placeT Try.prog 75 0 = some (0, 1) := by kernel_rfl
@[go_sem] theorem tab_fld75_1 : fldT Try.prog 75 1 = some 1 := by kernel_rfl
@[go_sem] theorem tab_fty75_1 : fldTy Try.prog 75 1 = some (3, 1) := by kernel_rfl
@[go_sem] theorem tab_pl75_1 : placeT Try.prog 75 1 = some (1, 1) := by kernel_rfl
@[go_sem] theorem tab_row76 : rowT Try.prog 76 = some false := by kernel_rfl
@[go_sem] theorem tab_size76 : sizeT Try.prog 76 = some 1 := by kernel_rfl
@[go_sem] theorem tab_conc76 : Program.concrete Try.prog 76 = true := by kernel_rfl
@[go_sem] theorem tab_lay76 : layE Try.prog 76 = some (1, 8, [.nilf]) := by kernel_rfl
@[go_sem] theorem tab_row77 : rowT Try.prog 77 = some false := by kernel_rfl
@[go_sem] theorem tab_size77 : sizeT Try.prog 77 = some 1 := by kernel_rfl
@[go_sem] theorem tab_conc77 : Program.concrete Try.prog 77 = true := by kernel_rfl
@[go_sem] theorem tab_lay77 : layE Try.prog 77 = some (1, 8, [.nilf]) := by kernel_rfl
@[go_sem] theorem tab_row78 : rowT Try.prog 78 = some false := by kernel_rfl
@[go_sem] theorem tab_size78 : sizeT Try.prog 78 = some 1 := by kernel_rfl
@[go_sem] theorem tab_conc78 : Program.concrete Try.prog 78 = true := by kernel_rfl
@[go_sem] theorem tab_lay78 : layE Try.prog 78 = some (1, 8, [.nilf]) := by kernel_rfl
@[go_sem] theorem tab_row79 : rowT Try.prog 79 = some false := by kernel_rfl
@[go_sem] theorem tab_size79 : sizeT Try.prog 79 = some 1 := by kernel_rfl
@[go_sem] theorem tab_conc79 : Program.concrete Try.prog 79 = true := by kernel_rfl
@[go_sem] theorem tab_lay79 : layE Try.prog 79 = some (1, 8, [.nilf]) := by kernel_rfl
@[go_sem] theorem tab_row80 : rowT Try.prog 80 = some true := by kernel_rfl
@[go_sem] theorem tab_size80 : sizeT Try.prog 80 = some 2 := by kernel_rfl
@[go_sem] theorem tab_conc80 : Program.concrete Try.prog 80 = true := by kernel_rfl
@[go_sem] theorem tab_lay80 : layE Try.prog 80 = some (2, 16, [.int .i64 0, .int .i64 0]) := by kernel_rfl
@[go_sem] theorem tab_known80 : knownT Try.prog 80 = true := by kernel_rfl
@[go_sem] theorem tab_fld80_0 : fldT Try.prog 80 0 = some 0 := by kernel_rfl
@[go_sem] theorem tab_fty80_0 : fldTy Try.prog 80 0 = some (3, 0) := by kernel_rfl
@[go_sem] theorem tab_pl80_0 : placeT Try.prog 80 0 = some (0, 1) := by kernel_rfl
@[go_sem] theorem tab_fld80_1 : fldT Try.prog 80 1 = some 1 := by kernel_rfl
@[go_sem] theorem tab_fty80_1 : fldTy Try.prog 80 1 = some (3, 1) := by kernel_rfl
@[go_sem] theorem tab_pl80_1 : placeT Try.prog 80 1 = some (1, 1) := by kernel_rfl
@[go_sem] theorem tab_row81 : rowT Try.prog 81 = some true := by kernel_rfl
@[go_sem] theorem tab_size81 : sizeT Try.prog 81 = some 2 := by kernel_rfl
@[go_sem] theorem tab_conc81 : Program.concrete Try.prog 81 = true := by kernel_rfl
@[go_sem] theorem tab_lay81 : layE Try.prog 81 = some (2, 16, [.int .i64 0, .int .i64 0]) := by kernel_rfl
@[go_sem] theorem tab_known81 : knownT Try.prog 81 = true := by kernel_rfl
@[go_sem] theorem tab_fld81_0 : fldT Try.prog 81 0 = some 0 := by kernel_rfl
@[go_sem] theorem tab_fty81_0 : fldTy Try.prog 81 0 = some (3, 0) := by kernel_rfl
@[go_sem] theorem tab_pl81_0 : placeT Try.prog 81 0 = some (0, 1) := by kernel_rfl
@[go_sem] theorem tab_fld81_1 : fldT Try.prog 81 1 = some 1 := by kernel_rfl
@[go_sem] theorem tab_fty81_1 : fldTy Try.prog 81 1 = some (3, 1) := by kernel_rfl
@[go_sem] theorem tab_pl81_1 : placeT Try.prog 81 1 = some (1, 1) := by kernel_rfl
@[go_sem] theorem tab_cells81 : cellsT Try.prog 81 = some [3, 3] := by kernel_rfl
@[go_sem] theorem tab_row82 : rowT Try.prog 82 = some false := by kernel_rfl
@[go_sem] theorem tab_size82 : sizeT Try.prog 82 = some 1 := by kernel_rfl
@[go_sem] theorem tab_conc82 : Program.concrete Try.prog 82 = true := by kernel_rfl
@[go_sem] theorem tab_lay82 : layE Try.prog 82 = some (1, 8, [.nilf]) := by kernel_rfl
@[go_sem] theorem tab_row83 : rowT Try.prog 83 = some false := by kernel_rfl
@[go_sem] theorem tab_size83 : sizeT Try.prog 83 = some 1 := by kernel_rfl
@[go_sem] theorem tab_ptr83 : isPtrT Try.prog 83 = true := by kernel_rfl
@[go_sem] theorem tab_conc83 : Program.concrete Try.prog 83 = true := by kernel_rfl
@[go_sem] theorem tab_lay83 : layE Try.prog 83 = some (1, 8, [.nilp]) := by kernel_rfl
@[go_sem] theorem tab_row84 : rowT Try.prog 84 = some true := by kernel_rfl
@[go_sem] theorem tab_size84 : sizeT Try.prog 84 = some 1 := by kernel_rfl
@[go_sem] theorem tab_conc84 : Program.concrete Try.prog 84 = true := by kernel_rfl
@[go_sem] theorem tab_lay84 : layE Try.prog 84 = some (1, 24, [.sl true []]) := by kernel_rfl
@[go_sem] theorem tab_known84 : knownT Try.prog 84 = true := by kernel_rfl
@[go_sem] theorem tab_fld84_0 : fldT Try.prog 84 0 = some 0 := by kernel_rfl
@[go_sem] theorem tab_fty84_0 : fldTy Try.prog 84 0 = some (22, 0) := by kernel_rfl
@[go_sem] theorem tab_pl84_0 : placeT Try.prog 84 0 = some (0, 1) := by kernel_rfl
@[go_sem] theorem tab_row85 : rowT Try.prog 85 = some true := by kernel_rfl
@[go_sem] theorem tab_size85 : sizeT Try.prog 85 = some 1 := by kernel_rfl
@[go_sem] theorem tab_conc85 : Program.concrete Try.prog 85 = true := by kernel_rfl
@[go_sem] theorem tab_lay85 : layE Try.prog 85 = some (1, 24, [.sl true []]) := by kernel_rfl
@[go_sem] theorem tab_known85 : knownT Try.prog 85 = true := by kernel_rfl
@[go_sem] theorem tab_fld85_0 : fldT Try.prog 85 0 = some 0 := by kernel_rfl
@[go_sem] theorem tab_fty85_0 : fldTy Try.prog 85 0 = some (22, 0) := by kernel_rfl
@[go_sem] theorem tab_pl85_0 : placeT Try.prog 85 0 = some (0, 1) := by kernel_rfl
@[go_sem] theorem tab_row86 : rowT Try.prog 86 = some false := by kernel_rfl
@[go_sem] theorem tab_size86 : sizeT Try.prog 86 = some 1 := by kernel_rfl
@[go_sem] theorem tab_conc86 : Program.concrete Try.prog 86 = true := by kernel_rfl
@[go_sem] theorem tab_lay86 : layE Try.prog 86 = some (1, 8, [.nilf]) := by kernel_rfl
@[go_sem] theorem tab_row87 : rowT Try.prog 87 = some false := by kernel_rfl
@[go_sem] theorem tab_size87 : sizeT Try.prog 87 = some 1 := by kernel_rfl
@[go_sem] theorem tab_ptr87 : isPtrT Try.prog 87 = true := by kernel_rfl
@[go_sem] theorem tab_conc87 : Program.concrete Try.prog 87 = true := by kernel_rfl
@[go_sem] theorem tab_lay87 : layE Try.prog 87 = some (1, 8, [.nilp]) := by kernel_rfl
@[go_sem] theorem tab_row88 : rowT Try.prog 88 = some false := by kernel_rfl
@[go_sem] theorem tab_size88 : sizeT Try.prog 88 = some 1 := by kernel_rfl
@[go_sem] theorem tab_conc88 : Program.concrete Try.prog 88 = true := by kernel_rfl
@[go_sem] theorem tab_lay88 : layE Try.prog 88 = some (1, 8, [.nilf]) := by kernel_rfl
@[go_sem] theorem tab_row89 : rowT Try.prog 89 = some false := by kernel_rfl
@[go_sem] theorem tab_size89 : sizeT Try.prog 89 = some 1 := by kernel_rfl
@[go_sem] theorem tab_conc89 : Program.concrete Try.prog 89 = true := by kernel_rfl
@[go_sem] theorem tab_lay89 : layE Try.prog 89 = some (1, 8, [.nilf]) := by kernel_rfl
@[go_sem] theorem tab_row90 : rowT Try.prog 90 = some false := by kernel_rfl
@[go_sem] theorem tab_size90 : sizeT Try.prog 90 = some 1 := by kernel_rfl
@[go_sem] theorem tab_row91 : rowT Try.prog 91 = some false := by kernel_rfl
@[go_sem] theorem tab_size91 : sizeT Try.prog 91 = some 1 := by kernel_rfl
@[go_sem] theorem tab_conc91 : Program.concrete Try.prog 91 = true := by kernel_rfl
@[go_sem] theorem tab_lay91 : layE Try.prog 91 = some (1, 8, [.nilf]) := by kernel_rfl
@[go_sem] theorem tab_row92 : rowT Try.prog 92 = some false := by kernel_rfl
@[go_sem] theorem tab_size92 : sizeT Try.prog 92 = some 1 := by kernel_rfl
@[go_sem] theorem tab_ptr92 : isPtrT Try.prog 92 = true := by kernel_rfl
@[go_sem] theorem tab_conc92 : Program.concrete Try.prog 92 = true := by kernel_rfl
@[go_sem] theorem tab_lay92 : layE Try.prog 92 = some (1, 8, [.nilp]) := by kernel_rfl
@[go_sem] theorem tab_row93 : rowT Try.prog 93 = some true := by kernel_rfl
@[go_sem] theorem tab_size93 : sizeT Try.prog 93 = some 2 := by kernel_rfl
@[go_sem] theorem tab_conc93 : Program.concrete Try.prog 93 = true := by kernel_rfl
@[go_sem] theorem tab_lay93 : layE Try.prog 93 = some (2, 32, [.sl true [], .bool false]) := by kernel_rfl
@[go_sem] theorem tab_known93 : knownT Try.prog 93 = true := by kernel_rfl
@[go_sem] theorem tab_fld93_0 : fldT Try.prog 93 0 = some 0 := by kernel_rfl
@[go_sem] theorem tab_fty93_0 : fldTy Try.prog 93 0 = some (22, 0) := by kernel_rfl
@[go_sem] theorem tab_pl93_0 : placeT Try.prog 93 0 = some (0, 1) := by kernel_rfl
@[go_sem] theorem tab_fld93_1 : fldT Try.prog 93 1 = some 1 := by kernel_rfl
@[go_sem] theorem tab_fty93_1 : fldTy Try.prog 93 1 = some (4, 1) := by kernel_rfl
@[go_sem] theorem tab_pl93_1 : placeT Try.prog 93 1 = some (1, 1) := by kernel_rfl
@[go_sem] theorem tab_row94 : rowT Try.prog 94 = some true := by kernel_rfl
@[go_sem] theorem tab_size94 : sizeT Try.prog 94 = some 2 := by kernel_rfl
@[go_sem] theorem tab_conc94 : Program.concrete Try.prog 94 = true := by kernel_rfl
@[go_sem] theorem tab_lay94 : layE Try.prog 94 = some (2, 32, [.sl true [], .bool false]) := by kernel_rfl
@[go_sem] theorem tab_known94 : knownT Try.prog 94 = true := by kernel_rfl
@[go_sem] theorem tab_fld94_0 : fldT Try.prog 94 0 = some 0 := by kernel_rfl
@[go_sem] theorem tab_fty94_0 : fldTy Try.prog 94 0 = some (22, 0) := by kernel_rfl
@[go_sem] theorem tab_pl94_0 : placeT Try.prog 94 0 = some (0, 1) := by kernel_rfl
@[go_sem] theorem tab_fld94_1 : fldT Try.prog 94 1 = some 1 := by kernel_rfl
@[go_sem] theorem tab_fty94_1 : fldTy Try.prog 94 1 = some (4, 1) := by kernel_rfl
@[go_sem] theorem tab_pl94_1 : placeT Try.prog 94 1 = some (1, 1) := by kernel_rfl
@[go_sem] theorem tab_row95 : rowT Try.prog 95 = some true := by kernel_rfl
@[go_sem] theorem tab_size95 : sizeT Try.prog 95 = some 3 := by kernel_rfl
@[go_sem] theorem tab_conc95 : Program.concrete Try.prog 95 = true := by kernel_rfl
@[go_sem] theorem tab_lay95 : layE Try.prog 95 = some (3, 40, [.sl true [], .int .i64 0, .bool false]) := by kernel_rfl
@[go_sem] theorem tab_known95 : knownT Try.prog 95 = true := by kernel_rfl
@[go_sem] theorem tab_fld95_0 : fldT Try.prog 95 0 = some 0 := by kernel_rfl
@[go_sem] theorem tab_fty95_0 : fldTy Try.prog 95 0 = some (22, 0) := by kernel_rfl
@[go_sem] theorem tab_pl95_0 : placeT Try.prog 95 0 = some (0, 1) := by kernel_rfl
@[go_sem] theorem tab_fld95_1 : fldT Try.prog 95 1 = some 1 := by kernel_rfl
@[go_sem] theorem tab_fty95_1 : fldTy Try.prog 95 1 = some (3, 1) := by kernel_rfl
@[go_sem] theorem tab_pl95_1 : placeT Try.prog 95 1 = some (1, 1) := by kernel_rfl
@[go_sem] theorem tab_fld95_2 : fldT Try.prog 95 2 = some 2 := by kernel_rfl
@[go_sem] theorem tab_fty95_2 : fldTy Try.prog 95 2 = some (4, 2) := by kernel_rfl
@[go_sem] theorem tab_pl95_2 : placeT Try.prog 95 2 = some (2, 1) := by kernel_rfl
@[go_sem] theorem tab_row96 : rowT Try.prog 96 = some true := by kernel_rfl
@[go_sem] theorem tab_size96 : sizeT Try.prog 96 = some 3 := by kernel_rfl
@[go_sem] theorem tab_conc96 : Program.concrete Try.prog 96 = true := by kernel_rfl
@[go_sem] theorem tab_lay96 : layE Try.prog 96 = some (3, 40, [.sl true [], .int .i64 0, .bool false]) := by kernel_rfl
@[go_sem] theorem tab_known96 : knownT Try.prog 96 = true := by kernel_rfl
@[go_sem] theorem tab_fld96_0 : fldT Try.prog 96 0 = some 0 := by kernel_rfl
@[go_sem] theorem tab_fty96_0 : fldTy Try.prog 96 0 = some (22, 0) := by kernel_rfl
@[go_sem] theorem tab_pl96_0 : placeT Try.prog 96 0 = some (0, 1) := by kernel_rfl
@[go_sem] theorem tab_fld96_1 : fldT Try.prog 96 1 = some 1 := by kernel_rfl
@[go_sem] theorem tab_fty96_1 : fldTy Try.prog 96 1 = some (3, 1) := by kernel_rfl
@[go_sem] theorem tab_pl96_1 : placeT Try.prog 96 1 = some (1, 1) := by kernel_rfl
@[go_sem] theorem tab_fld96_2 : fldT Try.prog 96 2 = some 2 := by kernel_rfl
@[go_sem] theorem tab_fty96_2 : fldTy Try.prog 96 2 = some (4, 2) := by kernel_rfl
@[go_sem] theorem tab_pl96_2 : placeT Try.prog 96 2 = some (2, 1) := by kernel_rfl
@[go_sem] theorem tab_row97 : rowT Try.prog 97 = some false := by kernel_rfl
@[go_sem] theorem tab_size97 : sizeT Try.prog 97 = some 1 := by kernel_rfl
@[go_sem] theorem tab_row98 : rowT Try.prog 98 = some false := by kernel_rfl
@[go_sem] theorem tab_size98 : sizeT Try.prog 98 = some 1 := by kernel_rfl
@[go_sem] theorem tab_conc98 : Program.concrete Try.prog 98 = true := by kernel_rfl
@[go_sem] theorem tab_lay98 : layE Try.prog 98 = some (1, 8, [.nilf]) := by kernel_rfl
@[go_sem] theorem tab_row99 : rowT Try.prog 99 = some false := by kernel_rfl
@[go_sem] theorem tab_size99 : sizeT Try.prog 99 = some 1 := by kernel_rfl
@[go_sem] theorem tab_row100 : rowT Try.prog 100 = some false := by kernel_rfl
@[go_sem] theorem tab_size100 : sizeT Try.prog 100 = some 1 := by kernel_rfl
@[go_sem] theorem tab_conc100 : Program.concrete Try.prog 100 = true := by kernel_rfl
@[go_sem] theorem tab_lay100 : layE Try.prog 100 = some (1, 8, [.nilf]) := by kernel_rfl
@[go_sem] theorem tab_row101 : rowT Try.prog 101 = some false := by kernel_rfl
@[go_sem] theorem tab_size101 : sizeT Try.prog 101 = some 1 := by kernel_rfl
@[go_sem] theorem tab_conc101 : Program.concrete Try.prog 101 = true := by kernel_rfl
@[go_sem] theorem tab_lay101 : layE Try.prog 101 = some (1, 8, [.nilf]) := by kernel_rfl
@[go_sem] theorem tab_row102 : rowT Try.prog 102 = some false := by kernel_rfl
@[go_sem] theorem tab_size102 : sizeT Try.prog 102 = some 1 := by kernel_rfl
@[go_sem] theorem tab_conc102 : Program.concrete Try.prog 102 = true := by kernel_rfl
@[go_sem] theorem tab_lay102 : layE Try.prog 102 = some (1, 8, [.nilf]) := by kernel_rfl
@[go_sem] theorem tab_row103 : rowT Try.prog 103 = some false := by kernel_rfl
@[go_sem] theorem tab_size103 : sizeT Try.prog 103 = some 1 := by kernel_rfl
@[go_sem] theorem tab_conc103 : Program.concrete Try.prog 103 = true := by kernel_rfl
@[go_sem] theorem tab_lay103 : layE Try.prog 103 = some (1, 8, [.nilf]) := by kernel_rfl
@[go_sem] theorem tab_row104 : rowT Try.prog 104 = some false := by kernel_rfl
@[go_sem] theorem tab_size104 : sizeT Try.prog 104 = some 1 := by kernel_rfl
@[go_sem] theorem tab_elem104 : elemT Try.prog 104 = some 106 := by kernel_rfl
@[go_sem] theorem tab_k104 : kT Try.prog 104 = .sl 106 := by kernel_rfl
@[go_sem] theorem tab_src104 : srcT Try.prog 104 = true := by kernel_rfl
@[go_sem] theorem tab_conc104 : Program.concrete Try.prog 104 = true := by kernel_rfl
@[go_sem] theorem tab_lay104 : layE Try.prog 104 = some (1, 24, [.sl true []]) := by kernel_rfl
@[go_sem] theorem tab_row105 : rowT Try.prog 105 = some true := by kernel_rfl
@[go_sem] theorem tab_size105 : sizeT Try.prog 105 = some 3 := by kernel_rfl
@[go_sem] theorem tab_conc105 : Program.concrete Try.prog 105 = true := by kernel_rfl
@[go_sem] theorem tab_lay105 : layE Try.prog 105 = some (3, 32, [.str ⟨#[]⟩, .int .i64 0, .int .i64 0]) := by kernel_rfl
@[go_sem] theorem tab_known105 : knownT Try.prog 105 = true := by kernel_rfl
@[go_sem] theorem tab_fld105_0 : fldT Try.prog 105 0 = some 0 := by kernel_rfl
@[go_sem] theorem tab_fty105_0 : fldTy Try.prog 105 0 = some (9, 0) := by kernel_rfl
@[go_sem] theorem tab_pl105_0 : placeT Try.prog 105 0 = some (0, 1) := by kernel_rfl
@[go_sem] theorem tab_fld105_1 : fldT Try.prog 105 1 = some 1 := by kernel_rfl
@[go_sem] theorem tab_fty105_1 : fldTy Try.prog 105 1 = some (3, 1) := by kernel_rfl
@[go_sem] theorem tab_pl105_1 : placeT Try.prog 105 1 = some (1, 1) := by kernel_rfl
@[go_sem] theorem tab_fld105_2 : fldT Try.prog 105 2 = some 2 := by kernel_rfl
@[go_sem] theorem tab_fty105_2 : fldTy Try.prog 105 2 = some (3, 2) := by kernel_rfl
@[go_sem] theorem tab_pl105_2 : placeT Try.prog 105 2 = some (2, 1) := by kernel_rfl
@[go_sem] theorem tab_row106 : rowT Try.prog 106 = some true := by kernel_rfl
@[go_sem] theorem tab_size106 : sizeT Try.prog 106 = some 3 := by kernel_rfl
@[go_sem] theorem tab_conc106 : Program.concrete Try.prog 106 = true := by kernel_rfl
@[go_sem] theorem tab_lay106 : layE Try.prog 106 = some (3, 32, [.str ⟨#[]⟩, .int .i64 0, .int .i64 0]) := by kernel_rfl
@[go_sem] theorem tab_known106 : knownT Try.prog 106 = true := by kernel_rfl
@[go_sem] theorem tab_fld106_0 : fldT Try.prog 106 0 = some 0 := by kernel_rfl
@[go_sem] theorem tab_fty106_0 : fldTy Try.prog 106 0 = some (9, 0) := by kernel_rfl
@[go_sem] theorem tab_pl106_0 : placeT Try.prog 106 0 = some (0, 1) := by kernel_rfl
@[go_sem] theorem tab_fld106_1 : fldT Try.prog 106 1 = some 1 := by kernel_rfl
@[go_sem] theorem tab_fty106_1 : fldTy Try.prog 106 1 = some (3, 1) := by kernel_rfl
@[go_sem] theorem tab_pl106_1 : placeT Try.prog 106 1 = some (1, 1) := by kernel_rfl
@[go_sem] theorem tab_fld106_2 : fldT Try.prog 106 2 = some 2 := by kernel_rfl
@[go_sem] theorem tab_fty106_2 : fldTy Try.prog 106 2 = some (3, 2) := by kernel_rfl
@[go_sem] theorem tab_pl106_2 : placeT Try.prog 106 2 = some (2, 1) := by kernel_rfl
@[go_sem] theorem tab_cells106 : cellsT Try.prog 106 = some [9, 3, 3] := by kernel_rfl
@[go_sem] theorem tab_row107 : rowT Try.prog 107 = some false := by kernel_rfl
@[go_sem] theorem tab_size107 : sizeT Try.prog 107 = some 1 := by kernel_rfl
@[go_sem] theorem tab_lay107 : layE Try.prog 107 = some (1, 16, [.nili]) := by kernel_rfl
@[go_sem] theorem tab_row108 : rowT Try.prog 108 = some false := by kernel_rfl
@[go_sem] theorem tab_size108 : sizeT Try.prog 108 = some 1 := by kernel_rfl
@[go_sem] theorem tab_lay108 : layE Try.prog 108 = some (1, 16, [.nili]) := by kernel_rfl
@[go_sem] theorem tab_row109 : rowT Try.prog 109 = some false := by kernel_rfl
@[go_sem] theorem tab_size109 : sizeT Try.prog 109 = some 1 := by kernel_rfl
@[go_sem] theorem tab_conc109 : Program.concrete Try.prog 109 = true := by kernel_rfl
@[go_sem] theorem tab_lay109 : layE Try.prog 109 = some (1, 8, [.nilf]) := by kernel_rfl
@[go_sem] theorem tab_row110 : rowT Try.prog 110 = some false := by kernel_rfl
@[go_sem] theorem tab_size110 : sizeT Try.prog 110 = some 1 := by kernel_rfl
@[go_sem] theorem tab_ptr110 : isPtrT Try.prog 110 = true := by kernel_rfl
@[go_sem] theorem tab_conc110 : Program.concrete Try.prog 110 = true := by kernel_rfl
@[go_sem] theorem tab_lay110 : layE Try.prog 110 = some (1, 8, [.nilp]) := by kernel_rfl
@[go_sem] theorem tab_row111 : rowT Try.prog 111 = some false := by kernel_rfl
@[go_sem] theorem tab_size111 : sizeT Try.prog 111 = some 1 := by kernel_rfl
@[go_sem] theorem tab_conc111 : Program.concrete Try.prog 111 = true := by kernel_rfl
@[go_sem] theorem tab_lay111 : layE Try.prog 111 = some (1, 8, [.nilf]) := by kernel_rfl
@[go_sem] theorem tab_row112 : rowT Try.prog 112 = some false := by kernel_rfl
@[go_sem] theorem tab_size112 : sizeT Try.prog 112 = some 1 := by kernel_rfl
@[go_sem] theorem tab_ptr112 : isPtrT Try.prog 112 = true := by kernel_rfl
@[go_sem] theorem tab_conc112 : Program.concrete Try.prog 112 = true := by kernel_rfl
@[go_sem] theorem tab_lay112 : layE Try.prog 112 = some (1, 8, [.nilp]) := by kernel_rfl
@[go_sem] theorem tab_row113 : rowT Try.prog 113 = some false := by kernel_rfl
@[go_sem] theorem tab_size113 : sizeT Try.prog 113 = some 1 := by kernel_rfl
@[go_sem] theorem tab_conc113 : Program.concrete Try.prog 113 = true := by kernel_rfl
@[go_sem] theorem tab_lay113 : layE Try.prog 113 = some (1, 8, [.nilf]) := by kernel_rfl
@[go_sem] theorem tab_row114 : rowT Try.prog 114 = some false := by kernel_rfl
@[go_sem] theorem tab_size114 : sizeT Try.prog 114 = some 1 := by kernel_rfl
@[go_sem] theorem tab_ptr114 : isPtrT Try.prog 114 = true := by kernel_rfl
@[go_sem] theorem tab_conc114 : Program.concrete Try.prog 114 = true := by kernel_rfl
@[go_sem] theorem tab_lay114 : layE Try.prog 114 = some (1, 8, [.nilp]) := by kernel_rfl
@[go_sem] theorem tab_row115 : rowT Try.prog 115 = some false := by kernel_rfl
@[go_sem] theorem tab_size115 : sizeT Try.prog 115 = some 1 := by kernel_rfl
@[go_sem] theorem tab_conc115 : Program.concrete Try.prog 115 = true := by kernel_rfl
@[go_sem] theorem tab_lay115 : layE Try.prog 115 = some (1, 8, [.nilf]) := by kernel_rfl
@[go_sem] theorem tab_row116 : rowT Try.prog 116 = some false := by kernel_rfl
@[go_sem] theorem tab_size116 : sizeT Try.prog 116 = some 1 := by kernel_rfl
@[go_sem] theorem tab_ptr116 : isPtrT Try.prog 116 = true := by kernel_rfl
@[go_sem] theorem tab_conc116 : Program.concrete Try.prog 116 = true := by kernel_rfl
@[go_sem] theorem tab_lay116 : layE Try.prog 116 = some (1, 8, [.nilp]) := by kernel_rfl
@[go_sem] theorem tab_row117 : rowT Try.prog 117 = some false := by kernel_rfl
@[go_sem] theorem tab_size117 : sizeT Try.prog 117 = some 1 := by kernel_rfl
@[go_sem] theorem tab_conc117 : Program.concrete Try.prog 117 = true := by kernel_rfl
@[go_sem] theorem tab_lay117 : layE Try.prog 117 = some (1, 8, [.nilf]) := by kernel_rfl
@[go_sem] theorem tab_row118 : rowT Try.prog 118 = some false := by kernel_rfl
@[go_sem] theorem tab_size118 : sizeT Try.prog 118 = some 1 := by kernel_rfl
@[go_sem] theorem tab_ptr118 : isPtrT Try.prog 118 = true := by kernel_rfl
@[go_sem] theorem tab_conc118 : Program.concrete Try.prog 118 = true := by kernel_rfl
@[go_sem] theorem tab_lay118 : layE Try.prog 118 = some (1, 8, [.nilp]) := by kernel_rfl
@[go_sem] theorem tab_row119 : rowT Try.prog 119 = some false := by kernel_rfl
@[go_sem] theorem tab_size119 : sizeT Try.prog 119 = some 1 := by kernel_rfl
@[go_sem] theorem tab_conc119 : Program.concrete Try.prog 119 = true := by kernel_rfl
@[go_sem] theorem tab_lay119 : layE Try.prog 119 = some (1, 8, [.nilf]) := by kernel_rfl
@[go_sem] theorem tab_row120 : rowT Try.prog 120 = some false := by kernel_rfl
@[go_sem] theorem tab_size120 : sizeT Try.prog 120 = some 1 := by kernel_rfl
@[go_sem] theorem tab_conc120 : Program.concrete Try.prog 120 = true := by kernel_rfl
@[go_sem] theorem tab_lay120 : layE Try.prog 120 = some (1, 8, [.nilf]) := by kernel_rfl
@[go_sem] theorem tab_row121 : rowT Try.prog 121 = some false := by kernel_rfl
@[go_sem] theorem tab_size121 : sizeT Try.prog 121 = some 1 := by kernel_rfl
@[go_sem] theorem tab_conc121 : Program.concrete Try.prog 121 = true := by kernel_rfl
@[go_sem] theorem tab_lay121 : layE Try.prog 121 = some (1, 8, [.nilf]) := by kernel_rfl
@[go_sem] theorem tab_row122 : rowT Try.prog 122 = some false := by kernel_rfl
@[go_sem] theorem tab_size122 : sizeT Try.prog 122 = some 1 := by kernel_rfl
@[go_sem] theorem tab_conc122 : Program.concrete Try.prog 122 = true := by kernel_rfl
@[go_sem] theorem tab_lay122 : layE Try.prog 122 = some (1, 8, [.nilf]) := by kernel_rfl
@[go_sem] theorem tab_row123 : rowT Try.prog 123 = some false := by kernel_rfl
@[go_sem] theorem tab_size123 : sizeT Try.prog 123 = some 1 := by kernel_rfl
@[go_sem] theorem tab_conc123 : Program.concrete Try.prog 123 = true := by kernel_rfl
@[go_sem] theorem tab_lay123 : layE Try.prog 123 = some (1, 8, [.nilf]) := by kernel_rfl
@[go_sem] theorem tab_row124 : rowT Try.prog 124 = some false := by kernel_rfl
@[go_sem] theorem tab_size124 : sizeT Try.prog 124 = some 1 := by kernel_rfl
@[go_sem] theorem tab_conc124 : Program.concrete Try.prog 124 = true := by kernel_rfl
@[go_sem] theorem tab_lay124 : layE Try.prog 124 = some (1, 8, [.nilf]) := by kernel_rfl
@[go_sem] theorem tab_row125 : rowT Try.prog 125 = some false := by kernel_rfl
@[go_sem] theorem tab_size125 : sizeT Try.prog 125 = some 1 := by kernel_rfl
@[go_sem] theorem tab_conc125 : Program.concrete Try.prog 125 = true := by kernel_rfl
@[go_sem] theorem tab_lay125 : layE Try.prog 125 = some (1, 8, [.nilf]) := by kernel_rfl
@[go_sem] theorem tab_row126 : rowT Try.prog 126 = some false := by kernel_rfl
@[go_sem] theorem tab_size126 : sizeT Try.prog 126 = some 1 := by kernel_rfl
@[go_sem] theorem tab_row127 : rowT Try.prog 127 = some false := by kernel_rfl
@[go_sem] theorem tab_size127 : sizeT Try.prog 127 = some 1 := by kernel_rfl
@[go_sem] theorem tab_conc127 : Program.concrete Try.prog 127 = true := by kernel_rfl
@[go_sem] theorem tab_lay127 : layE Try.prog 127 = some (1, 8, [.nilf]) := by kernel_rfl
@[go_sem] theorem tab_row128 : rowT Try.prog 128 = some false := by kernel_rfl
@[go_sem] theorem tab_size128 : sizeT Try.prog 128 = some 1 := by kernel_rfl
@[go_sem] theorem tab_row129 : rowT Try.prog 129 = some false := by kernel_rfl
@[go_sem] theorem tab_size129 : sizeT Try.prog 129 = some 1 := by kernel_rfl
@[go_sem] theorem tab_conc129 : Program.concrete Try.prog 129 = true := by kernel_rfl
@[go_sem] theorem tab_lay129 : layE Try.prog 129 = some (1, 8, [.nilf]) := by kernel_rfl
@[go_sem] theorem tab_row130 : rowT Try.prog 130 = some false := by kernel_rfl
@[go_sem] theorem tab_size130 : sizeT Try.prog 130 = some 1 := by kernel_rfl
@[go_sem] theorem tab_row131 : rowT Try.prog 131 = some false := by kernel_rfl
@[go_sem] theorem tab_size131 : sizeT Try.prog 131 = some 1 := by kernel_rfl
@[go_sem] theorem tab_conc131 : Program.concrete Try.prog 131 = true := by kernel_rfl
@[go_sem] theorem tab_lay131 : layE Try.prog 131 = some (1, 8, [.nilf]) := by kernel_rfl
@[go_sem] theorem tab_row132 : rowT Try.prog 132 = some false := by kernel_rfl
@[go_sem] theorem tab_size132 : sizeT Try.prog 132 = some 1 := by kernel_rfl
@[go_sem] theorem tab_row133 : rowT Try.prog 133 = some false := by kernel_rfl
@[go_sem] theorem tab_size133 : sizeT Try.prog 133 = some 1 := by kernel_rfl
@[go_sem] theorem tab_conc133 : Program.concrete Try.prog 133 = true := by kernel_rfl
@[go_sem] theorem tab_lay133 : layE Try.prog 133 = some (1, 8, [.nilf]) := by kernel_rfl
@[go_sem] theorem tab_row134 : rowT Try.prog 134 = some false := by kernel_rfl
@[go_sem] theorem tab_size134 : sizeT Try.prog 134 = some 1 := by kernel_rfl
@[go_sem] theorem tab_row135 : rowT Try.prog 135 = some false := by kernel_rfl
@[go_sem] theorem tab_size135 : sizeT Try.prog 135 = some 1 := by kernel_rfl
@[go_sem] theorem tab_conc135 : Program.concrete Try.prog 135 = true := by kernel_rfl
@[go_sem] theorem tab_lay135 : layE Try.prog 135 = some (1, 8, [.nilf]) := by kernel_rfl
@[go_sem] theorem tab_row136 : rowT Try.prog 136 = some false := by kernel_rfl
@[go_sem] theorem tab_size136 : sizeT Try.prog 136 = some 1 := by kernel_rfl
@[go_sem] theorem tab_elem136 : elemT Try.prog 136 = some 180 := by kernel_rfl
@[go_sem] theorem tab_k136 : kT Try.prog 136 = .sl 180 := by kernel_rfl
@[go_sem] theorem tab_src136 : srcT Try.prog 136 = true := by kernel_rfl
@[go_sem] theorem tab_conc136 : Program.concrete Try.prog 136 = true := by kernel_rfl
@[go_sem] theorem tab_lay136 : layE Try.prog 136 = some (1, 24, [.sl true []]) := by kernel_rfl
@[go_sem] theorem tab_row137 : rowT Try.prog 137 = some false := by kernel_rfl
@[go_sem] theorem tab_size137 : sizeT Try.prog 137 = some 1 := by kernel_rfl
@[go_sem] theorem tab_row138 : rowT Try.prog 138 = some false := by kernel_rfl
@[go_sem] theorem tab_size138 : sizeT Try.prog 138 = some 1 := by kernel_rfl
@[go_sem] theorem tab_conc138 : Program.concrete Try.prog 138 = true := by kernel_rfl
@[go_sem] theorem tab_lay138 : layE Try.prog 138 = some (1, 8, [.nilf]) := by kernel_rfl
@[go_sem] theorem tab_row139 : rowT Try.prog 139 = some false := by kernel_rfl
@[go_sem] theorem tab_size139 : sizeT Try.prog 139 = some 1 := by kernel_rfl
@[go_sem] theorem tab_conc139 : Program.concrete Try.prog 139 = true := by kernel_rfl
@[go_sem] theorem tab_lay139 : layE Try.prog 139 = some (1, 8, [.nilf]) := by kernel_rfl
@[go_sem] theorem tab_row140 : rowT Try.prog 140 = some false := by kernel_rfl
@[go_sem] theorem tab_size140 : sizeT Try.prog 140 = some 1 := by kernel_rfl
@[go_sem] theorem tab_conc140 : Program.concrete Try.prog 140 = true := by kernel_rfl
@[go_sem] theorem tab_lay140 : layE Try.prog 140 = some (1, 8, [.nilf]) := by kernel_rfl
@[go_sem] theorem tab_row141 : rowT Try.prog 141 = some false := by kernel_rfl
@[go_sem] theorem tab_size141 : sizeT Try.prog 141 = some 1 := by kernel_rfl
@[go_sem] theorem tab_ptr141 : isPtrT Try.prog 141 = true := by kernel_rfl
@[go_sem] theorem tab_conc141 : Program.concrete Try.prog 141 = true := by kernel_rfl
@[go_sem] theorem tab_lay141 : layE Try.prog 141 = some (1, 8, [.nilp]) := by kernel_rfl
@[go_sem] theorem tab_row142 : rowT Try.prog 142 = some false := by kernel_rfl
@[go_sem] theorem tab_size142 : sizeT Try.prog 142 = some 1 := by kernel_rfl
@[go_sem] theorem tab_conc142 : Program.concrete Try.prog 142 = true := by kernel_rfl
@[go_sem] theorem tab_lay142 : layE Try.prog 142 = some (1, 8, [.nilf]) := by kernel_rfl
@[go_sem] theorem tab_row143 : rowT Try.prog 143 = some false := by kernel_rfl
@[go_sem] theorem tab_size143 : sizeT Try.prog 143 = some 1 := by kernel_rfl
@[go_sem] theorem tab_conc143 : Program.concrete Try.prog 143 = true := by kernel_rfl
@[go_sem] theorem tab_lay143 : layE Try.prog 143 = some (1, 8, [.nilf]) := by kernel_rfl
@[go_sem] theorem tab_row144 : rowT Try.prog 144 = some false := by kernel_rfl
@[go_sem] theorem tab_size144 : sizeT Try.prog 144 = some 1 := by kernel_rfl
@[go_sem] theorem tab_ptr144 : isPtrT Try.prog 144 = true := by kernel_rfl
@[go_sem] theorem tab_conc144 : Program.concrete Try.prog 144 = true := by kernel_rfl
@[go_sem] theorem tab_lay144 : layE Try.prog 144 = some (1, 8, [.nilp]) := by kernel_rfl
@[go_sem] theorem tab_row145 : rowT Try.prog 145 = some false := by kernel_rfl
@[go_sem] theorem tab_size145 : sizeT Try.prog 145 = some 1 := by kernel_rfl
@[go_sem] theorem tab_conc145 : Program.concrete Try.prog 145 = true := by kernel_rfl
@[go_sem] theorem tab_lay145 : layE Try.prog 145 = some (1, 8, [.nilf]) := by kernel_rfl
@[go_sem] theorem tab_row146 : rowT Try.prog 146 = some false := by kernel_rfl
@[go_sem] theorem tab_size146 : sizeT Try.prog 146 = some 1 := by kernel_rfl
@[go_sem] theorem tab_ptr146 : isPtrT Try.prog 146 = true := by kernel_rfl
@[go_sem] theorem tab_conc146 : Program.concrete Try.prog 146 = true := by kernel_rfl
@[go_sem] theorem tab_lay146 : layE Try.prog 146 = some (1, 8, [.nilp]) := by kernel_rfl
@[go_sem] theorem tab_row147 : rowT Try.prog 147 = some false := by kernel_rfl
@[go_sem] theorem tab_size147 : sizeT Try.prog 147 = some 1 := by kernel_rfl
@[go_sem] theorem tab_conc147 : Program.concrete Try.prog 147 = true := by kernel_rfl
@[go_sem] theorem tab_lay147 : layE Try.prog 147 = some (1, 8, [.nilf]) := by kernel_rfl
@[go_sem] theorem tab_row148 : rowT Try.prog 148 = some false := by kernel_rfl
@[go_sem] theorem tab_size148 : sizeT Try.prog 148 = some 1 := by kernel_rfl
@[go_sem] theorem tab_ptr148 : isPtrT Try.prog 148 = true := by kernel_rfl
@[go_sem] theorem tab_conc148 : Program.concrete Try.prog 148 = true := by kernel_rfl
@[go_sem] theorem tab_lay148 : layE Try.prog 148 = some (1, 8, [.nilp]) := by kernel_rfl
@[go_sem] theorem tab_row149 : rowT Try.prog 149 = some false := by kernel_rfl
@[go_sem] theorem tab_size149 : sizeT Try.prog 149 = some 1 := by kernel_rfl
@[go_sem] theorem tab_conc149 : Program.concrete Try.prog 149 = true := by kernel_rfl
@[go_sem] theorem tab_lay149 : layE Try.prog 149 = some (1, 8, [.nilf]) := by kernel_rfl
@[go_sem] theorem tab_row150 : rowT Try.prog 150 = some false := by kernel_rfl
@[go_sem] theorem tab_size150 : sizeT Try.prog 150 = some 1 := by kernel_rfl
@[go_sem] theorem tab_conc150 : Program.concrete Try.prog 150 = true := by kernel_rfl
@[go_sem] theorem tab_lay150 : layE Try.prog 150 = some (1, 8, [.nilf]) := by kernel_rfl
@[go_sem] theorem tab_row151 : rowT Try.prog 151 = some false := by kernel_rfl
@[go_sem] theorem tab_size151 : sizeT Try.prog 151 = some 1 := by kernel_rfl
@[go_sem] theorem tab_ptr151 : isPtrT Try.prog 151 = true := by kernel_rfl
@[go_sem] theorem tab_conc151 : Program.concrete Try.prog 151 = true := by kernel_rfl
@[go_sem] theorem tab_lay151 : layE Try.prog 151 = some (1, 8, [.nilp]) := by kernel_rfl
@[go_sem] theorem tab_row152 : rowT Try.prog 152 = some false := by kernel_rfl
@[go_sem] theorem tab_size152 : sizeT Try.prog 152 = some 1 := by kernel_rfl
@[go_sem] theorem tab_conc152 : Program.concrete Try.prog 152 = true := by kernel_rfl
@[go_sem] theorem tab_lay152 : layE Try.prog 152 = some (1, 8, [.nilf]) := by kernel_rfl
@[go_sem] theorem tab_row153 : rowT Try.prog 153 = some false := by kernel_rfl
@[go_sem] theorem tab_size153 : sizeT Try.prog 153 = some 1 := by kernel_rfl
@[go_sem] theorem tab_ptr153 : isPtrT Try.prog 153 = true := by kernel_rfl
@[go_sem] theorem tab_conc153 : Program.concrete Try.prog 153 = true := by kernel_rfl
@[go_sem] theorem tab_lay153 : layE Try.prog 153 = some (1, 8, [.nilp]) := by kernel_rfl
@[go_sem] theorem tab_row154 : rowT Try.prog 154 = some false := by kernel_rfl
@[go_sem] theorem tab_size154 : sizeT Try.prog 154 = some 1 := by kernel_rfl
@[go_sem] theorem tab_conc154 : Program.concrete Try.prog 154 = true := by kernel_rfl
@[go_sem] theorem tab_lay154 : layE Try.prog 154 = some (1, 8, [.nilf]) := by kernel_rfl
@[go_sem] theorem tab_row155 : rowT Try.prog 155 = some false := by kernel_rfl
@[go_sem] theorem tab_size155 : sizeT Try.prog 155 = some 1 := by kernel_rfl
@[go_sem] theorem tab_ptr155 : isPtrT Try.prog 155 = true := by kernel_rfl
@[go_sem] theorem tab_conc155 : Program.concrete Try.prog 155 = true := by kernel_rfl
@[go_sem] theorem tab_lay155 : layE Try.prog 155 = some (1, 8, [.nilp]) := by kernel_rfl
@[go_sem] theorem tab_row156 : rowT Try.prog 156 = some false := by kernel_rfl
@[go_sem] theorem tab_size156 : sizeT Try.prog 156 = some 1 := by kernel_rfl
@[go_sem] theorem tab_conc156 : Program.concrete Try.prog 156 = true := by kernel_rfl
@[go_sem] theorem tab_lay156 : layE Try.prog 156 = some (1, 8, [.nilf]) := by kernel_rfl
@[go_sem] theorem tab_row157 : rowT Try.prog 157 = some false := by kernel_rfl
@[go_sem] theorem tab_size157 : sizeT Try.prog 157 = some 1 := by kernel_rfl
@[go_sem] theorem tab_conc157 : Program.concrete Try.prog 157 = true := by kernel_rfl
@[go_sem] theorem tab_lay157 : layE Try.prog 157 = some (1, 8, [.nilf]) := by kernel_rfl
@[go_sem] theorem tab_row158 : rowT Try.prog 158 = some false := by kernel_rfl
@[go_sem] theorem tab_size158 : sizeT Try.prog 158 = some 1 := by kernel_rfl
@[go_sem] theorem tab_ptr158 : isPtrT Try.prog 158 = true := by kernel_rfl
@[go_sem] theorem tab_conc158 : Program.concrete Try.prog 158 = true := by kernel_rfl
@[go_sem] theorem tab_lay158 : layE Try.prog 158 = some (1, 8, [.nilp]) := by kernel_rfl
@[go_sem] theorem tab_row159 : rowT Try.prog 159 = some false := by kernel_rfl
@[go_sem] theorem tab_size159 : sizeT Try.prog 159 = some 1 := by kernel_rfl
@[go_sem] theorem tab_conc159 : Program.concrete Try.prog 159 = true := by kernel_rfl
@[go_sem] theorem tab_lay159 : layE Try.prog 159 = some (1, 8, [.nilf]) := by kernel_rfl
@[go_sem] theorem tab_row160 : rowT Try.prog 160 = some false := by kernel_rfl
@[go_sem] theorem tab_size160 : sizeT Try.prog 160 = some 1 := by kernel_rfl
@[go_sem] theorem tab_conc160 : Program.concrete Try.prog 160 = true := by kernel_rfl
@[go_sem] theorem tab_lay160 : layE Try.prog 160 = some (1, 8, [.nilf]) := by kernel_rfl
@[go_sem] theorem tab_row161 : rowT Try.prog 161 = some false := by kernel_rfl
@[go_sem] theorem tab_size161 : sizeT Try.prog 161 = some 1 := by kernel_rfl
@[go_sem] theorem tab_ptr161 : isPtrT Try.prog 161 = true := by kernel_rfl
@[go_sem] theorem tab_conc161 : Program.concrete Try.prog 161 = true := by kernel_rfl
@[go_sem] theorem tab_lay161 : layE Try.prog 161 = some (1, 8, [.nilp]) := by kernel_rfl
@[go_sem] theorem tab_row162 : rowT Try.prog 162 = some false := by kernel_rfl
@[go_sem] theorem tab_size162 : sizeT Try.prog 162 = some 1 := by kernel_rfl
@[go_sem] theorem tab_conc162 : Program.concrete Try.prog 162 = true := by kernel_rfl
@[go_sem] theorem tab_lay162 : layE Try.prog 162 = some (1, 8, [.nilf]) := by kernel_rfl
@[go_sem] theorem tab_row163 : rowT Try.prog 163 = some false := by kernel_rfl
@[go_sem] theorem tab_size163 : sizeT Try.prog 163 = some 1 := by kernel_rfl
@[go_sem] theorem tab_conc163 : Program.concrete Try.prog 163 = true := by kernel_rfl
@[go_sem] theorem tab_lay163 : layE Try.prog 163 = some (1, 8, [.nilf]) := by kernel_rfl
@[go_sem] theorem tab_row164 : rowT Try.prog 164 = some false := by kernel_rfl
@[go_sem] theorem tab_size164 : sizeT Try.prog 164 = some 1 := by kernel_rfl
@[go_sem] theorem tab_conc164 : Program.concrete Try.prog 164 = true := by kernel_rfl
@[go_sem] theorem tab_lay164 : layE Try.prog 164 = some (1, 8, [.nilf]) := by kernel_rfl
@[go_sem] theorem tab_row165 : rowT Try.prog 165 = some false := by kernel_rfl
@[go_sem] theorem tab_size165 : sizeT Try.prog 165 = some 1 := by kernel_rfl
@[go_sem] theorem tab_conc165 : Program.concrete Try.prog 165 = true := by kernel_rfl
@[go_sem] theorem tab_lay165 : layE Try.prog 165 = some (1, 8, [.nilf]) := by kernel_rfl
@[go_sem] theorem tab_row166 : rowT Try.prog 166 = some false := by kernel_rfl
@[go_sem] theorem tab_size166 : sizeT Try.prog 166 = some 1 := by kernel_rfl
@[go_sem] theorem tab_row167 : rowT Try.prog 167 = some false := by kernel_rfl
@[go_sem] theorem tab_size167 : sizeT Try.prog 167 = some 1 := by kernel_rfl
@[go_sem] theorem tab_conc167 : Program.concrete Try.prog 167 = true := by kernel_rfl
@[go_sem] theorem tab_lay167 : layE Try.prog 167 = some (1, 8, [.nilf]) := by kernel_rfl
@[go_sem] theorem tab_row168 : rowT Try.prog 168 = some false := by kernel_rfl
@[go_sem] theorem tab_size168 : sizeT Try.prog 168 = some 1 := by kernel_rfl
@[go_sem] theorem tab_row169 : rowT Try.prog 169 = some false := by kernel_rfl
@[go_sem] theorem tab_size169 : sizeT Try.prog 169 = some 1 := by kernel_rfl
@[go_sem] theorem tab_conc169 : Program.concrete Try.prog 169 = true := by kernel_rfl
@[go_sem] theorem tab_lay169 : layE Try.prog 169 = some (1, 8, [.nilf]) := by kernel_rfl
@[go_sem] theorem tab_row170 : rowT Try.prog 170 = some false := by kernel_rfl
@[go_sem] theorem tab_size170 : sizeT Try.prog 170 = some 1 := by kernel_rfl
@[go_sem] theorem tab_conc170 : Program.concrete Try.prog 170 = true := by kernel_rfl
@[go_sem] theorem tab_lay170 : layE Try.prog 170 = some (1, 8, [.nilf]) := by kernel_rfl
@[go_sem] theorem tab_row171 : rowT Try.prog 171 = some false := by kernel_rfl
@[go_sem] theorem tab_size171 : sizeT Try.prog 171 = some 1 := by kernel_rfl
@[go_sem] theorem tab_row172 : rowT Try.prog 172 = some false := by kernel_rfl
@[go_sem] theorem tab_size172 : sizeT Try.prog 172 = some 1 := by kernel_rfl
@[go_sem] theorem tab_conc172 : Program.concrete Try.prog 172 = true := by kernel_rfl
@[go_sem] theorem tab_lay172 : layE Try.prog 172 = some (1, 8, [.nilf]) := by kernel_rfl
@[go_sem] theorem tab_row173 : rowT Try.prog 173 = some false := by kernel_rfl
@[go_sem] theorem tab_size173 : sizeT Try.prog 173 = some 1 := by kernel_rfl
@[go_sem] theorem tab_row174 : rowT Try.prog 174 = some false := by kernel_rfl
@[go_sem] theorem tab_size174 : sizeT Try.prog 174 = some 1 := by kernel_rfl
@[go_sem] theorem tab_conc174 : Program.concrete Try.prog 174 = true := by kernel_rfl
@[go_sem] theorem tab_lay174 : layE Try.prog 174 = some (1, 8, [.nilf]) := by kernel_rfl
@[go_sem] theorem tab_row175 : rowT Try.prog 175 = some false := by kernel_rfl
@[go_sem] theorem tab_size175 : sizeT Try.prog 175 = some 1 := by kernel_rfl
@[go_sem] theorem tab_row176 : rowT Try.prog 176 = some false := by kernel_rfl
@[go_sem] theorem tab_size176 : sizeT Try.prog 176 = some 1 := by kernel_rfl
@[go_sem] theorem tab_conc176 : Program.concrete Try.prog 176 = true := by kernel_rfl
@[go_sem] theorem tab_lay176 : layE Try.prog 176 = some (1, 8, [.nilf]) := by kernel_rfl
@[go_sem] theorem tab_row177 : rowT Try.prog 177 = some false := by kernel_rfl
@[go_sem] theorem tab_size177 : sizeT Try.prog 177 = some 1 := by kernel_rfl
@[go_sem] theorem tab_elem177 : elemT Try.prog 177 = some 37 := by kernel_rfl
@[go_sem] theorem tab_k177 : kT Try.prog 177 = .sl 37 := by kernel_rfl
@[go_sem] theorem tab_src177 : srcT Try.prog 177 = true := by kernel_rfl
@[go_sem] theorem tab_conc177 : Program.concrete Try.prog 177 = true := by kernel_rfl
@[go_sem] theorem tab_lay177 : layE Try.prog 177 = some (1, 24, [.sl true []]) := by kernel_rfl
@[go_sem] theorem tab_row178 : rowT Try.prog 178 = some false := by kernel_rfl
@[go_sem] theorem tab_size178 : sizeT Try.prog 178 = some 1 := by kernel_rfl
@[go_sem] theorem tab_conc178 : Program.concrete Try.prog 178 = true := by kernel_rfl
@[go_sem] theorem tab_lay178 : layE Try.prog 178 = some (1, 8, [.nilf]) := by kernel_rfl
@[go_sem] theorem tab_row179 : rowT Try.prog 179 = some true := by kernel_rfl
@[go_sem] theorem tab_size179 : sizeT Try.prog 179 = some 2 := by kernel_rfl
@[go_sem] theorem tab_conc179 : Program.concrete Try.prog 179 = true := by kernel_rfl
@[go_sem] theorem tab_lay179 : layE Try.prog 179 = some (2, 16, [.int .i64 0, .int .i64 0]) := by kernel_rfl
@[go_sem] theorem tab_known179 : knownT Try.prog 179 = true := by kernel_rfl
@[go_sem] theorem tab_fld179_0 : fldT Try.prog 179 0 = some 0 := by kernel_rfl
@[go_sem] theorem tab_fty179_0 : fldTy Try.prog 179 0 = some (3, 0) := by kernel_rfl
@[go_sem] theorem tab_pl179_0 : placeT Try.prog 179 0 = some (0, 1) := by kernel_rfl
@[go_sem] theorem tab_fld179_1 : fldT Try.prog 179 1 = some 1 := by kernel_rfl
@[go_sem] theorem tab_fty179_1 : fldTy Try.prog 179 1 = some (3, 1) := by kernel_rfl
@[go_sem] theorem tab_pl179_1 : placeT Try.prog 179 1 = some (1, 1) := by kernel_rfl
@[go_sem] theorem tab_row180 : rowT Try.prog 180 = some true := by kernel_rfl
@[go_sem] theorem tab_size180 : sizeT Try.prog 180 = some 2 := by kernel_rfl
@[go_sem] theorem tab_conc180 : Program.concrete Try.prog 180 = true := by kernel_rfl
@[go_sem] theorem tab_lay180 : layE Try.prog 180 = some (2, 16, [.int .i64 0, .int .i64 0]) := by kernel_rfl
@[go_sem] theorem tab_known180 : knownT Try.prog 180 = true := by kernel_rfl
@[go_sem] theorem tab_fld180_0 : fldT Try.prog 180 0 = some 0 := by kernel_rfl
@[go_sem] theorem tab_fty180_0 : fldTy Try.prog 180 0 = some (3, 0) := by kernel_rfl
@[go_sem] theorem tab_pl180_0 : placeT Try.prog 180 0 = some (0, 1) := by kernel_rfl
@[go_sem] theorem tab_fld180_1 : fldT Try.prog 180 1 = some 1 := by kernel_rfl
@[go_sem] theorem tab_fty180_1 : fldTy Try.prog 180 1 = some (3, 1) := by kernel_rfl
@[go_sem] theorem tab_pl180_1 : placeT Try.prog 180 1 = some (1, 1) := by kernel_rfl
@[go_sem] theorem tab_cells180 : cellsT Try.prog 180 = some [3, 3] := by kernel_rfl
@[go_sem] theorem tab_row181 : rowT Try.prog 181 = some false := by kernel_rfl
@[go_sem] theorem tab_size181 : sizeT Try.prog 181 = some 1 := by kernel_rfl
@[go_sem] theorem tab_elem181 : elemT Try.prog 181 = some 110 := by kernel_rfl
@[go_sem] theorem tab_k181 : kT Try.prog 181 = .sl 110 := by kernel_rfl
@[go_sem] theorem tab_src181 : srcT Try.prog 181 = true := by kernel_rfl
@[go_sem] theorem tab_conc181 : Program.concrete Try.prog 181 = true := by kernel_rfl
@[go_sem] theorem tab_lay181 : layE Try.prog 181 = some (1, 24, [.sl true []]) := by kernel_rfl
@[go_sem] theorem tab_row182 : rowT Try.prog 182 = some false := by kernel_rfl
@[go_sem] theorem tab_size182 : sizeT Try.prog 182 = some 1 := by kernel_rfl
@[go_sem] theorem tab_ptr182 : isPtrT Try.prog 182 = true := by kernel_rfl
@[go_sem] theorem tab_conc182 : Program.concrete Try.prog 182 = true := by kernel_rfl
@[go_sem] theorem tab_lay182 : layE Try.prog 182 = some (1, 8, [.nilp]) := by kernel_rfl
@[go_sem] theorem tab_row183 : rowT Try.prog 183 = some false := by kernel_rfl
@[go_sem] theorem tab_size183 : sizeT Try.prog 183 = some 1 := by kernel_rfl
@[go_sem] theorem tab_conc183 : Program.concrete Try.prog 183 = true := by kernel_rfl
@[go_sem] theorem tab_lay183 : layE Try.prog 183 = some (1, 8, [.nilf]) := by kernel_rfl
@[go_sem] theorem tab_row184 : rowT Try.prog 184 = some false := by kernel_rfl
@[go_sem] theorem tab_size184 : sizeT Try.prog 184 = some 1 := by kernel_rfl
@[go_sem] theorem tab_ptr184 : isPtrT Try.prog 184 = true := by kernel_rfl
@[go_sem] theorem tab_conc184 : Program.concrete Try.prog 184 = true := by kernel_rfl
@[go_sem] theorem tab_lay184 : layE Try.prog 184 = some (1, 8, [.nilp]) := by kernel_rfl
@[go_sem] theorem tab_row185 : rowT Try.prog 185 = some false := by kernel_rfl
@[go_sem] theorem tab_size185 : sizeT Try.prog 185 = some 1 := by kernel_rfl
@[go_sem] theorem tab_ptr185 : isPtrT Try.prog 185 = true := by kernel_rfl
@[go_sem] theorem tab_conc185 : Program.concrete Try.prog 185 = true := by kernel_rfl
@[go_sem] theorem tab_lay185 : layE Try.prog 185 = some (1, 8, [.nilp]) := by kernel_rfl
@[go_sem] theorem tab_row186 : rowT Try.prog 186 = some false := by kernel_rfl
@[go_sem] theorem tab_size186 : sizeT Try.prog 186 = some 1 := by kernel_rfl
@[go_sem] theorem tab_conc186 : Program.concrete Try.prog 186 = true := by kernel_rfl
@[go_sem] theorem tab_lay186 : layE Try.prog 186 = some (1, 8, [.nilf]) := by kernel_rfl
@[go_sem] theorem tab_row187 : rowT Try.prog 187 = some false := by kernel_rfl
@[go_sem] theorem tab_size187 : sizeT Try.prog 187 = some 1 := by kernel_rfl
@[go_sem] theorem tab_conc187 : Program.concrete Try.prog 187 = true := by kernel_rfl
@[go_sem] theorem tab_lay187 : layE Try.prog 187 = some (1, 8, [.nilf]) := by kernel_rfl
@[go_sem] theorem tab_row188 : rowT Try.prog 188 = some false := by kernel_rfl
@[go_sem] theorem tab_size188 : sizeT Try.prog 188 = some 1 := by kernel_rfl
@[go_sem] theorem tab_elem188 : elemT Try.prog 188 = some 192 := by kernel_rfl
@[go_sem] theorem tab_k188 : kT Try.prog 188 = .sl 192 := by kernel_rfl
@[go_sem] theorem tab_src188 : srcT Try.prog 188 = true := by kernel_rfl
@[go_sem] theorem tab_conc188 : Program.concrete Try.prog 188 = true := by kernel_rfl
@[go_sem] theorem tab_lay188 : layE Try.prog 188 = some (1, 24, [.sl true []]) := by kernel_rfl
@[go_sem] theorem tab_row189 : rowT Try.prog 189 = some false := by kernel_rfl
@[go_sem] theorem tab_size189 : sizeT Try.prog 189 = some 1 := by kernel_rfl
@[go_sem] theorem tab_row190 : rowT Try.prog 190 = some false := by kernel_rfl
@[go_sem] theorem tab_size190 : sizeT Try.prog 190 = some 1 := by kernel_rfl
@[go_sem] theorem tab_conc190 : Program.concrete Try.prog 190 = true := by kernel_rfl
@[go_sem] theorem tab_lay190 : layE Try.prog 190 = some (1, 8, [.nilf]) := by kernel_rfl
@[go_sem] theorem tab_row191 : rowT Try.prog 191 = some true := by kernel_rfl
@[go_sem] theorem tab_size191 : sizeT Try.prog 191 = some 3 := by kernel_rfl
@[go_sem] theorem tab_conc191 : Program.concrete Try.prog 191 = true := by kernel_rfl
@[go_sem] theorem tab_lay191 : layE Try.prog 191 = some (3, 24, [.int .i64 0, .int .i64 0, .int .i64 0]) := by kernel_rfl
@[go_sem] theorem tab_known191 : knownT Try.prog 191 = true := by kernel_rfl
@[go_sem] theorem tab_fld191_0 : fldT Try.prog 191 0 = some 0 := by kernel_rfl
@[go_sem] theorem tab_fty191_0 : fldTy Try.prog 191 0 = some (3, 0) := by kernel_rfl
@[go_sem] theorem tab_pl191_0 : placeT Try.prog 191 0 = some (0, 1) := by kernel_rfl
@[go_sem] theorem tab_fld191_1 : fldT Try.prog 191 1 = some 1 := by kernel_rfl
@[go_sem] theorem tab_fty191_1 : fldTy Try.prog 191 1 = some (3, 1) := by kernel_rfl
@[go_sem] theorem tab_pl191_1 : placeT Try.prog 191 1 = some (1, 1) := by kernel_rfl
@[go_sem] theorem tab_fld191_2 : fldT Try.prog 191 2 = some 2 := by kernel_rfl
@[go_sem] theorem tab_fty191_2 : fldTy Try.prog 191 2 = some (3, 2) := by kernel_rfl
@[go_sem] theorem tab_pl191_2 : placeT Try.prog 191 2 = some (2, 1) := by kernel_rfl
@[go_sem] theorem tab_row192 : rowT Try.prog 192 = some true := by kernel_rfl
@[go_sem] theorem tab_size192 : sizeT Try.prog 192 = some 3 := by kernel_rfl
@[go_sem] theorem tab_conc192 : Program.concrete Try.prog 192 = true := by kernel_rfl
@[go_sem] theorem tab_lay192 : layE Try.prog 192 = some (3, 24, [.int .i64 0, .int .i64 0, .int .i64 0]) := by kernel_rfl
@[go_sem] theorem tab_known192 : knownT Try.prog 192 = true := by kernel_rfl
@[go_sem] theorem tab_fld192_0 : fldT Try.prog 192 0 = some 0 := by kernel_rfl
@[go_sem] theorem tab_fty192_0 : fldTy Try.prog 192 0 = some (3, 0) := by kernel_rfl
@[go_sem] theorem tab_pl192_0 : placeT Try.prog 192 0 = some (0, 1) := by kernel_rfl
@[go_sem] theorem tab_fld192_1 : fldT Try.prog 192 1 = some 1 := by kernel_rfl
@[go_sem] theorem tab_fty192_1 : fldTy Try.prog 192 1 = some (3, 1) := by kernel_rfl
@[go_sem] theorem tab_pl192_1 : placeT Try.prog 192 1 = some (1, 1) := by kernel_rfl
@[go_sem] theorem tab_fld192_2 : fldT Try.prog 192 2 = some 2 := by kernel_rfl
@[go_sem] theorem tab_fty192_2 : fldTy Try.prog 192 2 = some (3, 2) := by kernel_rfl
@[go_sem] theorem tab_pl192_2 : placeT Try.prog 192 2 = some (2, 1) := by kernel_rfl
@[go_sem] theorem tab_cells192 : cellsT Try.prog 192 = some [3, 3, 3] := by kernel_rfl
@[go_sem] theorem tab_row193 : rowT Try.prog 193 = some true := by kernel_rfl
@[go_sem] theorem tab_size193 : sizeT Try.prog 193 = some 2 := by kernel_rfl
@[go_sem] theorem tab_k193 : kT Try.prog 193 = .arr 2 3 := by kernel_rfl
@[go_sem] theorem tab_arr193 : arrT Try.prog 193 = some (2, 3) := by kernel_rfl
@[go_sem] theorem tab_conc193 : Program.concrete Try.prog 193 = true := by kernel_rfl
@[go_sem] theorem tab_lay193 : layE Try.prog 193 = some (2, 16, [.int .i64 0, .int .i64 0]) := by kernel_rfl
@[go_sem] theorem tab_cells193 : cellsT Try.prog 193 = some [3, 3] := by kernel_rfl
@[go_sem] theorem tab_known193 : knownT Try.prog 193 = true := by kernel_rfl
@[go_sem] theorem tab_pl193 (i : Nat) : placeT Try.prog 193 i = some (i * 1, 1) := by simp only [placeT, Try.underlying193, tab_size3, Option.map_some]
@[go_sem] theorem tab_row194 : rowT Try.prog 194 = some false := by kernel_rfl
@[go_sem] theorem tab_size194 : sizeT Try.prog 194 = some 1 := by kernel_rfl
@[go_sem] theorem tab_elem194 : elemT Try.prog 194 = some 193 := by kernel_rfl
@[go_sem] theorem tab_k194 : kT Try.prog 194 = .sl 193 := by kernel_rfl
@[go_sem] theorem tab_src194 : srcT Try.prog 194 = true := by kernel_rfl
@[go_sem] theorem tab_conc194 : Program.concrete Try.prog 194 = true := by kernel_rfl
@[go_sem] theorem tab_lay194 : layE Try.prog 194 = some (1, 24, [.sl true []]) := by kernel_rfl
@[go_sem] theorem tab_row195 : rowT Try.prog 195 = some false := by kernel_rfl
@[go_sem] theorem tab_size195 : sizeT Try.prog 195 = some 1 := by kernel_rfl
@[go_sem] theorem tab_ptr195 : isPtrT Try.prog 195 = true := by kernel_rfl
@[go_sem] theorem tab_conc195 : Program.concrete Try.prog 195 = true := by kernel_rfl
@[go_sem] theorem tab_lay195 : layE Try.prog 195 = some (1, 8, [.nilp]) := by kernel_rfl
@[go_sem] theorem tab_row196 : rowT Try.prog 196 = some false := by kernel_rfl
@[go_sem] theorem tab_size196 : sizeT Try.prog 196 = some 1 := by kernel_rfl
@[go_sem] theorem tab_elem196 : elemT Try.prog 196 = some 28 := by kernel_rfl
@[go_sem] theorem tab_k196 : kT Try.prog 196 = .sl 28 := by kernel_rfl
@[go_sem] theorem tab_src196 : srcT Try.prog 196 = true := by kernel_rfl
@[go_sem] theorem tab_conc196 : Program.concrete Try.prog 196 = true := by kernel_rfl
@[go_sem] theorem tab_lay196 : layE Try.prog 196 = some (1, 24, [.sl true []]) := by kernel_rfl
@[go_sem] theorem tab_row197 : rowT Try.prog 197 = some false := by kernel_rfl
@[go_sem] theorem tab_size197 : sizeT Try.prog 197 = some 1 := by kernel_rfl
@[go_sem] theorem tab_row198 : rowT Try.prog 198 = some false := by kernel_rfl
@[go_sem] theorem tab_size198 : sizeT Try.prog 198 = some 1 := by kernel_rfl
@[go_sem] theorem tab_conc198 : Program.concrete Try.prog 198 = true := by kernel_rfl
@[go_sem] theorem tab_lay198 : layE Try.prog 198 = some (1, 8, [.nilf]) := by kernel_rfl
@[go_sem] theorem tab_row199 : rowT Try.prog 199 = some false := by kernel_rfl
@[go_sem] theorem tab_size199 : sizeT Try.prog 199 = some 1 := by kernel_rfl
@[go_sem] theorem tab_conc199 : Program.concrete Try.prog 199 = true := by kernel_rfl
@[go_sem] theorem tab_lay199 : layE Try.prog 199 = some (1, 8, [.nilf]) := by kernel_rfl
@[go_sem] theorem tab_row200 : rowT Try.prog 200 = some false := by kernel_rfl
@[go_sem] theorem tab_size200 : sizeT Try.prog 200 = some 1 := by kernel_rfl
@[go_sem] theorem tab_conc200 : Program.concrete Try.prog 200 = true := by kernel_rfl
@[go_sem] theorem tab_lay200 : layE Try.prog 200 = some (1, 8, [.nilf]) := by kernel_rfl
@[go_sem] theorem tab_row201 : rowT Try.prog 201 = some false := by kernel_rfl
@[go_sem] theorem tab_size201 : sizeT Try.prog 201 = some 1 := by kernel_rfl
@[go_sem] theorem tab_conc201 : Program.concrete Try.prog 201 = true := by kernel_rfl
@[go_sem] theorem tab_lay201 : layE Try.prog 201 = some (1, 8, [.nilf]) := by kernel_rfl
@[go_sem] theorem tab_row202 : rowT Try.prog 202 = some false := by kernel_rfl
@[go_sem] theorem tab_size202 : sizeT Try.prog 202 = some 1 := by kernel_rfl
@[go_sem] theorem tab_conc202 : Program.concrete Try.prog 202 = true := by kernel_rfl
@[go_sem] theorem tab_lay202 : layE Try.prog 202 = some (1, 8, [.nilf]) := by kernel_rfl
@[go_sem] theorem tab_row203 : rowT Try.prog 203 = some false := by kernel_rfl
@[go_sem] theorem tab_size203 : sizeT Try.prog 203 = some 1 := by kernel_rfl
@[go_sem] theorem tab_row204 : rowT Try.prog 204 = some false := by kernel_rfl
@[go_sem] theorem tab_size204 : sizeT Try.prog 204 = some 1 := by kernel_rfl
@[go_sem] theorem tab_conc204 : Program.concrete Try.prog 204 = true := by kernel_rfl
@[go_sem] theorem tab_lay204 : layE Try.prog 204 = some (1, 8, [.nilf]) := by kernel_rfl
@[go_sem] theorem tab_row205 : rowT Try.prog 205 = some false := by kernel_rfl
@[go_sem] theorem tab_size205 : sizeT Try.prog 205 = some 1 := by kernel_rfl
@[go_sem] theorem tab_conc205 : Program.concrete Try.prog 205 = true := by kernel_rfl
@[go_sem] theorem tab_lay205 : layE Try.prog 205 = some (1, 8, [.nilf]) := by kernel_rfl
@[go_sem] theorem tab_row206 : rowT Try.prog 206 = some false := by kernel_rfl
@[go_sem] theorem tab_size206 : sizeT Try.prog 206 = some 1 := by kernel_rfl
@[go_sem] theorem tab_conc206 : Program.concrete Try.prog 206 = true := by kernel_rfl
@[go_sem] theorem tab_lay206 : layE Try.prog 206 = some (1, 8, [.nilf]) := by kernel_rfl
@[go_sem] theorem tab_row207 : rowT Try.prog 207 = some false := by kernel_rfl
@[go_sem] theorem tab_size207 : sizeT Try.prog 207 = some 1 := by kernel_rfl
@[go_sem] theorem tab_conc207 : Program.concrete Try.prog 207 = true := by kernel_rfl
@[go_sem] theorem tab_lay207 : layE Try.prog 207 = some (1, 8, [.nilf]) := by kernel_rfl
@[go_sem] theorem tab_row208 : rowT Try.prog 208 = some true := by kernel_rfl
@[go_sem] theorem tab_size208 : sizeT Try.prog 208 = some 12 := by kernel_rfl
@[go_sem] theorem tab_k208 : kT Try.prog 208 = .arr 12 3 := by kernel_rfl
@[go_sem] theorem tab_arr208 : arrT Try.prog 208 = some (12, 3) := by kernel_rfl
@[go_sem] theorem tab_conc208 : Program.concrete Try.prog 208 = true := by kernel_rfl
@[go_sem] theorem tab_lay208 : layE Try.prog 208 = some (12, 96, [.int .i64 0, .int .i64 0, .int .i64 0, .int .i64 0, .int .i64 0, .int .i64 0, .int .i64 0, .int .i64 0, .int .i64 0, .int .i64 0, .int .i64 0, .int .i64 0]) := by kernel_rfl
@[go_sem] theorem tab_cells208 : cellsT Try.prog 208 = some [3, 3, 3, 3, 3, 3, 3, 3, 3, 3, 3, 3] := by kernel_rfl
@[go_sem] theorem tab_known208 : knownT Try.prog 208 = true := by kernel_rfl
@[go_sem] theorem tab_pl208 (i : Nat) : placeT Try.prog 208 i = some (i * 1, 1) := by simp only [placeT, Try.underlying208, tab_size3, Option.map_some]
@[go_sem] theorem tab_row209 : rowT Try.prog 209 = some false := by kernel_rfl
@[go_sem] theorem tab_size209 : sizeT Try.prog 209 = some 1 := by kernel_rfl
@[go_sem] theorem tab_conc209 : Program.concrete Try.prog 209 = true := by kernel_rfl
@[go_sem] theorem tab_lay209 : layE Try.prog 209 = some (1, 8, [.nilf]) := by kernel_rfl
@[go_sem] theorem tab_row210 : rowT Try.prog 210 = some false := by kernel_rfl
@[go_sem] theorem tab_size210 : sizeT Try.prog 210 = some 1 := by kernel_rfl
@[go_sem] theorem tab_row211 : rowT Try.prog 211 = some false := by kernel_rfl
@[go_sem] theorem tab_size211 : sizeT Try.prog 211 = some 1 := by kernel_rfl
@[go_sem] theorem tab_conc211 : Program.concrete Try.prog 211 = true := by kernel_rfl
@[go_sem] theorem tab_lay211 : layE Try.prog 211 = some (1, 8, [.nilf]) := by kernel_rfl
@[go_sem] theorem tab_row212 : rowT Try.prog 212 = some true := by kernel_rfl
@[go_sem] theorem tab_size212 : sizeT Try.prog 212 = some 3 := by kernel_rfl
@[go_sem] theorem tab_k212 : kT Try.prog 212 = .arr 3 3 := by kernel_rfl
@[go_sem] theorem tab_arr212 : arrT Try.prog 212 = some (3, 3) := by kernel_rfl
@[go_sem] theorem tab_conc212 : Program.concrete Try.prog 212 = true := by kernel_rfl
@[go_sem] theorem tab_lay212 : layE Try.prog 212 = some (3, 24, [.int .i64 0, .int .i64 0, .int .i64 0]) := by kernel_rfl
@[go_sem] theorem tab_cells212 : cellsT Try.prog 212 = some [3, 3, 3] := by kernel_rfl
@[go_sem] theorem tab_known212 : knownT Try.prog 212 = true := by kernel_rfl
@[go_sem] theorem tab_pl212 (i : Nat) : placeT Try.prog 212 i = some (i * 1, 1) := by simp only [placeT, Try.underlying212, tab_size3, Option.map_some]
@[go_sem] theorem tab_row213 : rowT Try.prog 213 = some false := by kernel_rfl
@[go_sem] theorem tab_size213 : sizeT Try.prog 213 = some 1 := by kernel_rfl
@[go_sem] theorem tab_row214 : rowT Try.prog 214 = some false := by kernel_rfl
@[go_sem] theorem tab_size214 : sizeT Try.prog 214 = some 1 := by kernel_rfl
@[go_sem] theorem tab_conc214 : Program.concrete Try.prog 214 = true := by kernel_rfl
@[go_sem] theorem tab_lay214 : layE Try.prog 214 = some (1, 8, [.nilf]) := by kernel_rfl
@[go_sem] theorem tab_row215 : rowT Try.prog 215 = some false := by kernel_rfl
@[go_sem] theorem tab_size215 : sizeT Try.prog 215 = some 1 := by kernel_rfl
@[go_sem] theorem tab_conc215 : Program.concrete Try.prog 215 = true := by kernel_rfl
@[go_sem] theorem tab_lay215 : layE Try.prog 215 = some (1, 8, [.nilf]) := by kernel_rfl
@[go_sem] theorem tab_row216 : rowT Try.prog 216 = some true := by kernel_rfl
@[go_sem] theorem tab_size216 : sizeT Try.prog 216 = some 4 := by kernel_rfl
@[go_sem] theorem tab_conc216 : Program.concrete Try.prog 216 = true := by kernel_rfl
@[go_sem] theorem tab_lay216 : layE Try.prog 216 = some (4, 40, [.nilp, .nilp, .nilp, .str ⟨#[]⟩]) := by kernel_rfl
@[go_sem] theorem tab_known216 : knownT Try.prog 216 = true := by kernel_rfl
@[go_sem] theorem tab_fld216_0 : fldT Try.prog 216 0 = some 0 := by kernel_rfl
@[go_sem] theorem tab_fty216_0 : fldTy Try.prog 216 0 = some (17, 0) := by kernel_rfl
@[go_sem] theorem tab_pl216_0 : placeT Try.prog 216 0 = some (0, 1) := by kernel_rfl
@[go_sem] theorem tab_fld216_1 : fldT Try.prog 216 1 = some 1 := by kernel_rfl
@[go_sem] theorem tab_fty216_1 : fldTy Try.prog 216 1 = some (17, 1) := by kernel_rfl
@[go_sem] theorem tab_pl216_1 : placeT Try.prog 216 1 = some (1, 1) := by kernel_rfl
@[go_sem] theorem tab_fld216_2 : fldT Try.prog 216 2 = some 2 := by kernel_rfl
@[go_sem] theorem tab_fty216_2 : fldTy Try.prog 216 2 = some (17, 2) := by kernel_rfl
@[go_sem] theorem tab_pl216_2 : placeT Try.prog 216 2 = some (2, 1) := by kernel_rfl
@[go_sem] theorem tab_fld216_3 : fldT Try.prog 216 3 = some 3 := by kernel_rfl
@[go_sem] theorem tab_fty216_3 : fldTy Try.prog 216 3 = some (9, 3) := by kernel_rfl
@[go_sem] theorem tab_pl216_3 : placeT Try.prog 216 3 = some (3, 1) := by kernel_rfl
@[go_sem] theorem tab_row217 : rowT Try.prog 217 = some true := by kernel_rfl
@[go_sem] theorem tab_size217 : sizeT Try.prog 217 = some 4 := by kernel_rfl
@[go_sem] theorem tab_conc217 : Program.concrete Try.prog 217 = true := by kernel_rfl
@[go_sem] theorem tab_lay217 : layE Try.prog 217 = some (4, 40, [.nilp, .nilp, .nilp, .str ⟨#[]⟩]) := by kernel_rfl
@[go_sem] theorem tab_known217 : knownT Try.prog 217 = true := by kernel_rfl
@[go_sem] theorem tab_fld217_0 : fldT Try.prog 217 0 = some 0 := by kernel_rfl
@[go_sem] theorem tab_fty217_0 : fldTy Try.prog 217 0 = some (17, 0) := by kernel_rfl
@[go_sem] theorem tab_pl217_0 : placeT Try.prog 217 0 = some (0, 1) := by kernel_rfl
@[go_sem] theorem tab_fld217_1 : fldT Try.prog 217 1 = some 1 := by kernel_rfl
@[go_sem] theorem tab_fty217_1 : fldTy Try.prog 217 1 = some (17, 1) := by kernel_rfl
@[go_sem] theorem tab_pl217_1 : placeT Try.prog 217 1 = some (1, 1) := by kernel_rfl
@[go_sem] theorem tab_fld217_2 : fldT Try.prog 217 2 = some 2 := by kernel_rfl
@[go_sem] theorem tab_fty217_2 : fldTy Try.prog 217 2 = some (17, 2) := by kernel_rfl
@[go_sem] theorem tab_pl217_2 : placeT Try.prog 217 2 = some (2, 1) := by kernel_rfl
@[go_sem] theorem tab_fld217_3 : fldT Try.prog 217 3 = some 3 := by kernel_rfl
@[go_sem] theorem tab_fty217_3 : fldTy Try.prog 217 3 = some (9, 3) := by kernel_rfl
@[go_sem] theorem tab_pl217_3 : placeT Try.prog 217 3 = some (3, 1) := by kernel_rfl
@[go_sem] theorem tab_row218 : rowT Try.prog 218 = some true := by kernel_rfl
@[go_sem] theorem tab_size218 : sizeT Try.prog 218 = some 0 := by kernel_rfl
@[go_sem] theorem tab_k218 : kT Try.prog 218 = .arr 0 16 := by kernel_rfl
@[go_sem] theorem tab_arr218 : arrT Try.prog 218 = some (0, 16) := by kernel_rfl
@[go_sem] theorem tab_conc218 : Program.concrete Try.prog 218 = true := by kernel_rfl
@[go_sem] theorem tab_known218 : knownT Try.prog 218 = true := by kernel_rfl
@[go_sem] theorem tab_pl218 (i : Nat) : placeT Try.prog 218 i = some (i * 1, 1) := by simp only [placeT, Try.underlying218, tab_size16, Option.map_some]
@[go_sem] theorem tab_row219 : rowT Try.prog 219 = some true := by kernel_rfl
@[go_sem] theorem tab_size219 : sizeT Try.prog 219 = some 0 := by kernel_rfl
@[go_sem] theorem tab_conc219 : Program.concrete Try.prog 219 = true := by kernel_rfl
@[go_sem] theorem tab_known219 : knownT Try.prog 219 = true := by kernel_rfl
@[go_sem] theorem tab_fty219_0 : fldTy Try.prog 219 0 = some (218, 0) := by kernel_rfl
@[go_sem] theorem tab_pl219_0 : placeT Try.prog 219 0 = some (0, 0) := by kernel_rfl
@[go_sem] theorem tab_row220 : rowT Try.prog 220 = some true := by kernel_rfl
@[go_sem] theorem tab_size220 : sizeT Try.prog 220 = some 0 := by kernel_rfl
@[go_sem] theorem tab_conc220 : Program.concrete Try.prog 220 = true := by kernel_rfl
@[go_sem] theorem tab_known220 : knownT Try.prog 220 = true := by kernel_rfl
@[go_sem] theorem tab_fty220_0 : fldTy Try.prog 220 0 = some (218, 0) := by kernel_rfl
@[go_sem] theorem tab_pl220_0 : placeT Try.prog 220 0 = some (0, 0) := by kernel_rfl
@[go_sem] theorem tab_row221 : rowT Try.prog 221 = some false := by kernel_rfl
@[go_sem] theorem tab_size221 : sizeT Try.prog 221 = some 1 := by kernel_rfl
@[go_sem] theorem tab_int221 : intT Try.prog 221 = some .u32 := by kernel_rfl
@[go_sem] theorem tab_conc221 : Program.concrete Try.prog 221 = true := by kernel_rfl
@[go_sem] theorem tab_lay221 : layE Try.prog 221 = some (1, 4, [.int .u32 0]) := by kernel_rfl
@[go_sem] theorem tab_row222 : rowT Try.prog 222 = some false := by kernel_rfl
@[go_sem] theorem tab_size222 : sizeT Try.prog 222 = some 1 := by kernel_rfl
@[go_sem] theorem tab_int222 : intT Try.prog 222 = some .u8 := by kernel_rfl
@[go_sem] theorem tab_conc222 : Program.concrete Try.prog 222 = true := by kernel_rfl
@[go_sem] theorem tab_lay222 : layE Try.prog 222 = some (1, 1, [.int .u8 0]) := by kernel_rfl
@[go_sem] theorem tab_row223 : rowT Try.prog 223 = some false := by kernel_rfl
@[go_sem] theorem tab_size223 : sizeT Try.prog 223 = some 1 := by kernel_rfl
@[go_sem] theorem tab_int223 : intT Try.prog 223 = some .u8 := by kernel_rfl
@[go_sem] theorem tab_conc223 : Program.concrete Try.prog 223 = true := by kernel_rfl
@[go_sem] theorem tab_lay223 : layE Try.prog 223 = some (1, 1, [.int .u8 0]) := by kernel_rfl
@[go_sem] theorem tab_row224 : rowT Try.prog 224 = some false := by kernel_rfl
@[go_sem] theorem tab_size224 : sizeT Try.prog 224 = some 1 := by kernel_rfl
@[go_sem] theorem tab_conc224 : Program.concrete Try.prog 224 = true := by kernel_rfl
@[go_sem] theorem tab_lay224 : layE Try.prog 224 = some (1, 8, [.nilf]) := by kernel_rfl
@[go_sem] theorem tab_row225 : rowT Try.prog 225 = some false := by kernel_rfl
@[go_sem] theorem tab_size225 : sizeT Try.prog 225 = some 1 := by kernel_rfl
@[go_sem] theorem tab_ptr225 : isPtrT Try.prog 225 = true := by kernel_rfl
@[go_sem] theorem tab_conc225 : Program.concrete Try.prog 225 = true := by kernel_rfl
@[go_sem] theorem tab_lay225 : layE Try.prog 225 = some (1, 8, [.nilp]) := by kernel_rfl
@[go_sem] theorem tab_row226 : rowT Try.prog 226 = some false := by kernel_rfl
@[go_sem] theorem tab_size226 : sizeT Try.prog 226 = some 1 := by kernel_rfl
@[go_sem] theorem tab_int226 : intT Try.prog 226 = some .i32 := by kernel_rfl
@[go_sem] theorem tab_conc226 : Program.concrete Try.prog 226 = true := by kernel_rfl
@[go_sem] theorem tab_lay226 : layE Try.prog 226 = some (1, 4, [.int .i32 0]) := by kernel_rfl
@[go_sem] theorem tab_row227 : rowT Try.prog 227 = some false := by kernel_rfl
@[go_sem] theorem tab_size227 : sizeT Try.prog 227 = some 1 := by kernel_rfl
@[go_sem] theorem tab_int227 : intT Try.prog 227 = some .i32 := by kernel_rfl
@[go_sem] theorem tab_conc227 : Program.concrete Try.prog 227 = true := by kernel_rfl
@[go_sem] theorem tab_lay227 : layE Try.prog 227 = some (1, 4, [.int .i32 0]) := by kernel_rfl
@[go_sem] theorem tab_row228 : rowT Try.prog 228 = some true := by kernel_rfl
@[go_sem] theorem tab_size228 : sizeT Try.prog 228 = some 11 := by kernel_rfl
@[go_sem] theorem tab_conc228 : Program.concrete Try.prog 228 = true := by kernel_rfl
@[go_sem] theorem tab_lay228 : layE Try.prog 228 = some (11, 48, [.int .u64 0, .int .u64 0, .int .u32 0, .int .u8 0, .int .u8 0, .int .u8 0, .int .u8 0, .nilf, .nilp, .int .i32 0, .int .i32 0]) := by kernel_rfl
@[go_sem] theorem tab_known228 : knownT Try.prog 228 = true := by kernel_rfl
@[go_sem] theorem tab_fld228_0 : fldT Try.prog 228 0 = some 0 := by kernel_rfl
@[go_sem] theorem tab_fty228_0 : fldTy Try.prog 228 0 = some (12, 0) := by kernel_rfl
@[go_sem] theorem tab_pl228_0 : placeT Try.prog 228 0 = some (0, 1) := by kernel_rfl
@[go_sem] theorem tab_fld228_1 : fldT Try.prog 228 1 = some 1 := by kernel_rfl
@[go_sem] theorem tab_fty228_1 : fldTy Try.prog 228 1 = some (12, 1) := by kernel_rfl
@[go_sem] theorem tab_pl228_1 : placeT Try.prog 228 1 = some (1, 1) := by kernel_rfl
@[go_sem] theorem tab_fld228_2 : fldT Try.prog 228 2 = some 2 := by kernel_rfl
@[go_sem] theorem tab_fty228_2 : fldTy Try.prog 228 2 = some (221, 2) := by kernel_rfl
@[go_sem] theorem tab_pl228_2 : placeT Try.prog 228 2 = some (2, 1) := by kernel_rfl
@[go_sem] theorem tab_fld228_3 : fldT Try.prog 228 3 = some 3 := by kernel_rfl
@[go_sem] theorem tab_fty228_3 : fldTy Try.prog 228 3 = some (222, 3) := by kernel_rfl
@[go_sem] theorem tab_pl228_3 : placeT Try.prog 228 3 = some (3, 1) := by kernel_rfl
@[go_sem] theorem tab_fld228_4 : fldT Try.prog 228 4 = some 4 := by kernel_rfl
@[go_sem] theorem tab_fty228_4 : fldTy Try.prog 228 4 = some (5, 4) := by kernel_rfl
@[go_sem] theorem tab_pl228_4 : placeT Try.prog 228 4 = some (4, 1) := by kernel_rfl
@[go_sem] theorem tab_fld228_5 : fldT Try.prog 228 5 = some 5 := by kernel_rfl
@[go_sem] theorem tab_fty228_5 : fldTy Try.prog 228 5 = some (5, 5) := by kernel_rfl
@[go_sem] theorem tab_pl228_5 : placeT Try.prog 228 5 = some (5, 1) := by kernel_rfl
@[go_sem] theorem tab_fld228_6 : fldT Try.prog 228 6 = some 6 := by kernel_rfl
@[go_sem] theorem tab_fty228_6 : fldTy Try.prog 228 6 = some (223, 6) := by kernel_rfl
@[go_sem] theorem tab_pl228_6 : placeT Try.prog 228 6 = some (6, 1) := by kernel_rfl
@[go_sem] theorem tab_fld228_7 : fldT Try.prog 228 7 = some 7 := by kernel_rfl
@[go_sem] theorem tab_fty228_7 : fldTy Try.prog 228 7 = some (224, 7) := by kernel_rfl
@[go_sem] theorem tab_pl228_7 : placeT Try.prog 228 7 = some (7, 1) := by kernel_rfl
@[go_sem] theorem tab_fld228_8 : fldT Try.prog 228 8 = some 8 := by kernel_rfl
@[go_sem] theorem tab_fty228_8 : fldTy Try.prog 228 8 = some (225, 8) := by kernel_rfl
@[go_sem] theorem tab_pl228_8 : placeT Try.prog 228 8 = some (8, 1) := by kernel_rfl
@[go_sem] theorem tab_fld228_9 : fldT Try.prog 228 9 = some 9 := by kernel_rfl
@[go_sem] theorem tab_fty228_9 : fldTy Try.prog 228 9 = some (226, 9) := by kernel_rfl
@[go_sem] theorem tab_pl228_9 : placeT Try.prog 228 9 = some (9, 1) := by kernel_rfl
@[go_sem] theorem tab_fld228_10 : fldT Try.prog 228 10 = some 10 := by kernel_rfl
@[go_sem] theorem tab_fty228_10 : fldTy Try.prog 228 10 = some (227, 10) := by kernel_rfl
@[go_sem] theorem tab_pl228_10 : placeT Try.prog 228 10 = some (10, 1) := by kernel_rfl
@[go_sem] theorem tab_row229 : rowT Try.prog 229 = some true := by kernel_rfl
@[go_sem] theorem tab_size229 : sizeT Try.prog 229 = some 11 := by kernel_rfl
@[go_sem] theorem tab_conc229 : Program.concrete Try.prog 229 = true := by kernel_rfl
@[go_sem] theorem tab_lay229 : layE Try.prog 229 = some (11, 48, [.int .u64 0, .int .u64 0, .int .u32 0, .int .u8 0, .int .u8 0, .int .u8 0, .int .u8 0, .nilf, .nilp, .int .i32 0, .int .i32 0]) := by kernel_rfl
@[go_sem] theorem tab_known229 : knownT Try.prog 229 = true := by kernel_rfl
@[go_sem] theorem tab_fld229_0 : fldT Try.prog 229 0 = some 0 := by kernel_rfl
@[go_sem] theorem tab_fty229_0 : fldTy Try.prog 229 0 = some (12, 0) := by kernel_rfl
@[go_sem] theorem tab_pl229_0 : placeT Try.prog 229 0 = some (0, 1) := by kernel_rfl
@[go_sem] theorem tab_fld229_1 : fldT Try.prog 229 1 = some 1 := by kernel_rfl
@[go_sem] theorem tab_fty229_1 : fldTy Try.prog 229 1 = some (12, 1) := by kernel_rfl
@[go_sem] theorem tab_pl229_1 : placeT Try.prog 229 1 = some (1, 1) := by kernel_rfl
@[go_sem] theorem tab_fld229_2 : fldT Try.prog 229 2 = some 2 := by kernel_rfl
@[go_sem] theorem tab_fty229_2 : fldTy Try.prog 229 2 = some (221, 2) := by kernel_rfl
@[go_sem] theorem tab_pl229_2 : placeT Try.prog 229 2 = some (2, 1) := by kernel_rfl
@[go_sem] theorem tab_fld229_3 : fldT Try.prog 229 3 = some 3 := by kernel_rfl
@[go_sem] theorem tab_fty229_3 : fldTy Try.prog 229 3 = some (222, 3) := by kernel_rfl
@[go_sem] theorem tab_pl229_3 : placeT Try.prog 229 3 = some (3, 1) := by kernel_rfl
@[go_sem] theorem tab_fld229_4 : fldT Try.prog 229 4 = some 4 := by kernel_rfl
@[go_sem] theorem tab_fty229_4 : fldTy Try.prog 229 4 = some (5, 4) := by kernel_rfl
@[go_sem] theorem tab_pl229_4 : placeT Try.prog 229 4 = some (4, 1) := by kernel_rfl
@[go_sem] theorem tab_fld229_5 : fldT Try.prog 229 5 = some 5 := by kernel_rfl
@[go_sem] theorem tab_fty229_5 : fldTy Try.prog 229 5 = some (5, 5) := by kernel_rfl
@[go_sem] theorem tab_pl229_5 : placeT Try.prog 229 5 = some (5, 1) := by kernel_rfl
@[go_sem] theorem tab_fld229_6 : fldT Try.prog 229 6 = some 6 := by kernel_rfl
@[go_sem] theorem tab_fty229_6 : fldTy Try.prog 229 6 = some (223, 6) := by kernel_rfl
@[go_sem] theorem tab_pl229_6 : placeT Try.prog 229 6 = some (6, 1) := by kernel_rfl
@[go_sem] theorem tab_fld229_7 : fldT Try.prog 229 7 = some 7 := by kernel_rfl
@[go_sem] theorem tab_fty229_7 : fldTy Try.prog 229 7 = some (224, 7) := by kernel_rfl
@[go_sem] theorem tab_pl229_7 : placeT Try.prog 229 7 = some (7, 1) := by kernel_rfl
@[go_sem] theorem tab_fld229_8 : fldT Try.prog 229 8 = some 8 := by kernel_rfl
@[go_sem] theorem tab_fty229_8 : fldTy Try.prog 229 8 = some (225, 8) := by kernel_rfl
@[go_sem] theorem tab_pl229_8 : placeT Try.prog 229 8 = some (8, 1) := by kernel_rfl
@[go_sem] theorem tab_fld229_9 : fldT Try.prog 229 9 = some 9 := by kernel_rfl
@[go_sem] theorem tab_fty229_9 : fldTy Try.prog 229 9 = some (226, 9) := by kernel_rfl
@[go_sem] theorem tab_pl229_9 : placeT Try.prog 229 9 = some (9, 1) := by kernel_rfl
@[go_sem] theorem tab_fld229_10 : fldT Try.prog 229 10 = some 10 := by kernel_rfl
@[go_sem] theorem tab_fty229_10 : fldTy Try.prog 229 10 = some (227, 10) := by kernel_rfl
@[go_sem] theorem tab_pl229_10 : placeT Try.prog 229 10 = some (10, 1) := by kernel_rfl
@[go_sem] theorem tab_row230 : rowT Try.prog 230 = some false := by kernel_rfl
@[go_sem] theorem tab_size230 : sizeT Try.prog 230 = some 1 := by kernel_rfl
@[go_sem] theorem tab_conc230 : Program.concrete Try.prog 230 = true := by kernel_rfl
@[go_sem] theorem tab_lay230 : layE Try.prog 230 = some (1, 8, [.nilf]) := by kernel_rfl
@[go_sem] theorem tab_row231 : rowT Try.prog 231 = some false := by kernel_rfl
@[go_sem] theorem tab_size231 : sizeT Try.prog 231 = some 1 := by kernel_rfl
@[go_sem] theorem tab_conc231 : Program.concrete Try.prog 231 = true := by kernel_rfl
@[go_sem] theorem tab_lay231 : layE Try.prog 231 = some (1, 8, [.nilp]) := by kernel_rfl
end Go.Proofs.Ytdhngmldmalbbaa
end
section
set_option linter.all false
/-
  The code of an entry of a journal: what is written for the cells of a value, and what is read.
-/
namespace Go.Store
open Go.Lift Go.RowKit

/-- the cells of a value, in order. -/
inductive Sch where
  | nil
  | int (r : Sch)
  | word (r : Sch)
  | bool (r : Sch)
  | str (r : Sch)
  | sl (e r : Sch)

def Sch.app : Sch → Sch → Sch
  | .nil, t => t
  | .int r, t => .int (r.app t)
  | .word r, t => .word (r.app t)
  | .bool r, t => .bool (r.app t)
  | .str r, t => .str (r.app t)
  | .sl e r, t => .sl e (r.app t)

def sI : Sch := .int .nil
def sStr : Sch := .str .nil
def sRd : Sch := .int (.int .nil)
def sPlace : Sch := .int (.int (.int (.int .nil)))
def sRep : Sch := .int (.str (.int (.int (.int (.int (.int (.sl sRd .nil)))))))
def sItem : Sch := sRep.app (.int (.int .nil))
def sPer : Sch := .int (.bool (.int (.int (.int (.int (.sl sRd .nil))))))
def sCnt : Sch := .str (.int (.int .nil))
def sAna : Sch := .sl sI (.sl sI (.sl sI (.int (.word (.int (.int (.int .nil)))))))
def sHist : Sch := .sl (.sl sCnt .nil) (.sl sStr .nil)
def sCyc : Sch := .int (.int (.int (.sl sRep (sAna.app (.int (.sl sI (.sl sI sHist)))))))

def Sch.n : Sch → Nat
  | .nil => 0
  | .int r | .word r | .bool r | .str r | .sl _ r => r.n + 1

/-- the highest byte first. -/
def be : Nat → Nat → List UInt8
  | 0, _ => []
  | n + 1, v => UInt8.ofNat (v / 256 ^ n) :: be n v

def num (bs : List UInt8) : Nat := bs.foldl (fun a b => a * 256 + b.toNat) 0

/-- an int as 64 bits. -/
def u64 (v : Int) : Nat := (v % 18446744073709551616).toNat
/-- 64 bits as an int. -/
def s64 (n : Nat) : Int := IntKind.i64.wrap n

def enc : Sch → List LV → List UInt8
  | .int r, .int _ v :: us => be 8 (u64 v) ++ enc r us
  | .word r, .int _ v :: us => be 8 v.toNat ++ enc r us
  | .bool r, .bool b :: us => (if b then 1 else 0) :: enc r us
  | .str r, .str s :: us => be 4 s.size ++ (s.data.toList ++ enc r us)
  | .sl e r, .sl _ es :: us => be 4 es.length ++ (es.flatMap (enc e) ++ enc r us)
  | _, _ => []

def ok : Sch → List LV → Prop
  | .nil, [] => True
  | .int r, .int k v :: us => k = .i64 ∧ -9223372036854775808 ≤ v ∧ v ≤ 9223372036854775807 ∧ ok r us
  | .word r, .int k v :: us => k = .u64 ∧ 0 ≤ v ∧ v ≤ 18446744073709551615 ∧ ok r us
  | .bool r, .bool _ :: us => ok r us
  | .str r, .str s :: us => s.size < 4294967296 ∧ ok r us
  | .sl e r, .sl _ es :: us => es.length < 4294967296 ∧ (∀ x ∈ es, ok e x) ∧ ok r us
  | _, _ => False

/-- a value, without what is known of the capacities of its slices. -/
def nz : Sch → List LV → List LV
  | .int r, u :: us => u :: nz r us
  | .word r, u :: us => u :: nz r us
  | .bool r, u :: us => u :: nz r us
  | .str r, u :: us => u :: nz r us
  | .sl e r, .sl _ es :: us => .sl false (es.map (nz e)) :: nz r us
  | .sl _ r, u :: us => u :: nz r us
  | .nil, us => us
  | _, [] => []

def decN (f : List UInt8 → Option (List LV × List UInt8)) : Nat → List UInt8 → Option (List (List LV) × List UInt8)
  | 0, bs => some ([], bs)
  | n + 1, bs => match f bs with
    | some (x, bs') => match decN f n bs' with
      | some (xs, bs'') => some (x :: xs, bs'')
      | none => none
    | none => none

def take' (n : Nat) (bs : List UInt8) : Option (List UInt8 × List UInt8) := if n ≤ bs.length then some (bs.take n, bs.drop n) else none

/-- a first cell, and what follows. -/
def cons' (u : LV) : Option (List LV × List UInt8) → Option (List LV × List UInt8)
  | some (us, bs) => some (u :: us, bs)
  | none => none

def dec : Sch → List UInt8 → Option (List LV × List UInt8)
  | .nil, bs => some ([], bs)
  | .int r, bs => match take' 8 bs with
    | some (x, bs') => cons' (.int .i64 (s64 (num x))) (dec r bs')
    | none => none
  | .word r, bs => match take' 8 bs with
    | some (x, bs') => cons' (.int .u64 (num x)) (dec r bs')
    | none => none
  | .bool r, bs => match take' 1 bs with
    | some (x, bs') => if num x ≤ 1 then cons' (.bool (num x == 1)) (dec r bs') else none
    | none => none
  | .str r, bs => match take' 4 bs with
    | some (x, bs') => match take' (num x) bs' with
      | some (y, bs'') => cons' (.str (strOf y)) (dec r bs'')
      | none => none
    | none => none
  | .sl e r, bs => match take' 4 bs with
    | some (x, bs') => match decN (dec e) (num x) bs' with
      | some (xs, bs'') => cons' (.sl false xs) (dec r bs'')
      | none => none
    | none => none

/-- what may be written bears no references. -/
theorem ok_lt {n : Nat} : ∀ {s : Sch} {us : List LV}, ok s us → ltL n us = true
  | .nil, [], _ => rfl
  | .int r, .int k v :: us, h => by simp only [ok] at h; simp only [ltL, LV.lt, ok_lt h.2.2.2, Bool.and_self]
  | .word r, .int k v :: us, h => by simp only [ok] at h; simp only [ltL, LV.lt, ok_lt h.2.2.2, Bool.and_self]
  | .bool r, .bool b :: us, h => by simp only [ok] at h; simp only [ltL, LV.lt, ok_lt h, Bool.and_self]
  | .str r, .str b :: us, h => by simp only [ok] at h; simp only [ltL, LV.lt, ok_lt h.2, Bool.and_self]
  | .sl e r, .sl f es :: us, h => by
    simp only [ok] at h
    have : ltLL n es = true := lt_int fun x hx => ok_lt (h.2.1 x hx)
    simp only [ltL, LV.lt, ok_lt h.2.2, this, Bool.and_self]

theorem ok_frz {S : LS} {n d : Nat} : ∀ {s : Sch} {us : List LV}, ok s us → us.map (frz S n d) = us
  | .nil, [], _ => rfl
  | .int r, .int k v :: us, h => by simp only [ok] at h; simp only [List.map_cons, frz_int, ok_frz h.2.2.2]
  | .word r, .int k v :: us, h => by simp only [ok] at h; simp only [List.map_cons, frz_int, ok_frz h.2.2.2]
  | .bool r, .bool b :: us, h => by simp only [ok] at h; simp only [List.map_cons, frz_bool, ok_frz h]
  | .str r, .str b :: us, h => by simp only [ok] at h; simp only [List.map_cons, frz_str, ok_frz h.2]
  | .sl e r, .sl f es :: us, h => by simp only [ok] at h; simp only [List.map_cons, frz_sl, ok_frz h.2.2]

theorem ok_frzL {S : LS} {n d : Nat} {s : Sch} {es : List (List LV)} (h : ∀ e ∈ es, ok s e) : (es.map fun e => e.map (frz S n d)) = es := by
  induction es with
  | nil => rfl
  | cons e es ih => rw [List.map_cons, ih (fun x hx => h x (by simp [hx])), ok_frz (h e (by simp))]

/-- a row of such values, where the call ends. -/
theorem RowT_ok {S T : LS} {m sz n d : Nat} {A : LS} {u : LV} {s : Sch} {es : List (List LV)} (h : RowT n T m u sz es) (hA : A.length = n) (hok : ∀ e ∈ es, ok s e) : ∃ full, frz (A ++ T) n (d + 1) u = .sl full es := by
  rcases h.frz (d := d) hA with h | h
  · exact h
  · exact ⟨false, by rw [h, ok_frzL hok]⟩

/-! ### Numbers -/
theorem be_length (n v : Nat) : (be n v).length = n := by induction n with | zero => rfl | succ n ih => simp [be, ih]

theorem num_append (a b : List UInt8) : num (a ++ b) = num a * 256 ^ b.length + num b := by
  have h : ∀ (l : List UInt8) (s : Nat), l.foldl (fun a b => a * 256 + b.toNat) s = s * 256 ^ l.length + l.foldl (fun a b => a * 256 + b.toNat) 0 := by
    intro l
    induction l with
    | nil => intro s; simp
    | cons x l ih => intro s; rw [List.foldl_cons, List.foldl_cons, ih, ih (0 * 256 + x.toNat)]; simp [Nat.pow_succ, Nat.add_mul, Nat.mul_assoc, Nat.mul_comm 256, Nat.add_assoc]
  rw [num, List.foldl_append, h]; rfl

theorem num_be (n v : Nat) : num (be n v) = v % 256 ^ n := by
  induction n with
  | zero => simp [be, num, Nat.mod_one]
  | succ n ih =>
    have : be (n + 1) v = [UInt8.ofNat (v / 256 ^ n)] ++ be n v := rfl
    rw [this, num_append, ih, be_length]
    have e : v % 256 ^ (n + 1) = v % 256 ^ n + 256 ^ n * (v / 256 ^ n % 256) := by rw [Nat.pow_succ]; exact Nat.mod_mul
    have e2 : num [UInt8.ofNat (v / 256 ^ n)] = v / 256 ^ n % 256 := by simp [num]
    rw [e, e2, Nat.mul_comm, Nat.add_comm]

theorem num_lt (l : List UInt8) : num l < 256 ^ l.length := by
  have h : ∀ (l : List UInt8) (s : Nat), l.foldl (fun a b => a * 256 + b.toNat) s < (s + 1) * 256 ^ l.length := by
    intro l
    induction l with
    | nil => intro s; simp
    | cons x l ih =>
      intro s
      rw [List.foldl_cons, List.length_cons, Nat.pow_succ, Nat.mul_comm (256 ^ l.length), ← Nat.mul_assoc]
      have h1 := x.toNat_lt
      exact Nat.lt_of_lt_of_le (ih _) (Nat.mul_le_mul_right _ (by omega))
  have := h l 0
  simpa [num] using this

end Go.Store
end
section
set_option linter.all false
namespace Go.Proofs.Ytdhngmldmalbbaa
open Go.Lift Go.RowKit Go.Store
set_option linter.unusedSimpArgs false

def cb (fl : Bool) (xs : List UInt8) (at_ : Nat) : Blk := (2, [[.sl fl (xs.map u8c), .int .i64 at_]])

set_option maxHeartbeats 400000 in
theorem Left_ok {S : LS} {p : Nat} {fl : Bool} {xs : List UInt8} {at_ : Nat} (h : S[p]? = some (some (cb fl xs at_))) :
    LCalls Try.prog 34 [.ptr p 0 0] S (fun r S' => r = .bool (decide (at_ < xs.length)) ∧ S = S') := by
  refine LCalls_introK 0 Try.func34 rfl (by kernel_rfl) rfl fun RR hRR => ?_
  refine Lwp_seq fun KK0 hKK0 => ?_
  refine LregionG [none] (by kernel_rfl) (by kernel_rfl) ?_
  simp -dsimp only [go_sem, ↓reduceIte, cb]
  repeat with_reducible refine And.intro (by first | omega | decide) ?_
  refine hKK0 _ _ ?_
  try clear hKK0 KK0
  refine Lwp_seq fun KK1 hKK1 => ?_
  refine LdrawE [0,1,2,3,4,5,6,7,8,9,10] [(p, cb fl xs at_)] none (by kernel_rfl) (by kernel_rfl) (by kernel_rfl) (by kernel_rfl) (by simp [Watch.holds, h]) ?_
  simp -dsimp only [go_sem, ↓reduceIte, cb]
  repeat with_reducible refine And.intro (by first | omega | decide) ?_
  refine hKK1 _ _ ?_
  try clear hKK1 KK1
  refine Lwp_ret ?_
  simp only [LThen, LBlock, LPost, Try.results34]
  simp -dsimp only [go_sem, ↓reduceIte, cb]
  refine ret_self (by simp only [go_sem, LV.lt]) ?_
  simp only [go_sem]
  refine hRR _ _ ?_
  exact ⟨by simp, rfl⟩

theorem List.set_getElem?_self {α : Type} {l : List α} {i : Nat} {x : α} (h : l[i]? = some x) : l.set i x = l := by
  apply List.ext_getElem?
  intro j
  by_cases e : i = j
  · subst e; rw [List.getElem?_set_self (List.getElem?_eq_some_iff.1 h).1, h]
  · rw [List.getElem?_set_ne e]

set_option maxHeartbeats 400000 in
theorem Next_ok {S : LS} {p : Nat} {fl : Bool} {xs : List UInt8} {at_ : Nat} (n : Int) (hx : xs.length ≤ 1000000) (hn : -9223372036854775808 ≤ n ∧ n ≤ 9223372036854775807) (h : S[p]? = some (some (cb fl xs at_))) :
    LCalls Try.prog 16 [.ptr p 0 0, .int .i64 n] S (fun r S' => ∃ (v : Int) (at' : Nat), r = .int .i64 v ∧ S' = S.set p (some (cb fl xs at')) ∧ 0 ≤ v ∧ v ≤ 255 ∧ (1 ≤ n → v < n) ∧ (n < 1 → v = 0)) := by
  refine LCalls_introK 0 Try.func16 rfl (by kernel_rfl) rfl fun RR hRR => ?_
  refine Lwp_seq fun KK0 hKK0 => ?_
  refine LregionG [none] (by kernel_rfl) (by kernel_rfl) ?_
  simp -dsimp only [go_sem, ↓reduceIte, cb, h]
  repeat with_reducible refine And.intro (by first | omega | decide) ?_
  refine hKK0 _ _ ?_
  try clear hKK0 KK0
  refine Lwp_seq fun KK1 hKK1 => ?_
  refine Lwp_seq fun KK2 hKK2 => ?_
  refine LregionG [none, none, none, none, some (8, false), some (8, false), none] (by kernel_rfl) (by kernel_rfl) ?_
  simp -dsimp only [go_sem, ↓reduceIte, cb, h]
  refine (Left_ok h).k ?_
  rintro r S' ⟨rfl, rfl⟩
  simp -dsimp only [go_sem, ↓reduceIte, cb, h]
  by_cases hlt : at_ < xs.length
  rotate_left
  · skip
    simp only [go_sem, ↓reduceIte, hlt, decide_false, Bool.not_false]
    refine hKK2 _ _ ?_
    try clear hKK2 KK2
    refine Lwp_cond (by simp only [go_sem, ↓reduceIte, cb, h, hlt, decide_false, Bool.not_false]; rfl) (fun ht => ?_) (fun hf => ?_)
    · skip
      refine Lwp_seq fun KK3 hKK3 => ?_
      refine LregionG [none] (by kernel_rfl) (by kernel_rfl) ?_
      simp -dsimp only [go_sem, ↓reduceIte, cb, h, hlt, decide_false, Bool.not_false]
      repeat with_reducible refine And.intro (by first | omega | decide) ?_
      refine hKK3 _ _ ?_
      try clear hKK3 KK3
      refine Lwp_ret ?_
      simp only [LThen, LBlock, LPost, Try.results16]
      simp -dsimp only [go_sem, ↓reduceIte, cb, h, hlt, decide_false, Bool.not_false]
      refine ret_self (by simp only [go_sem, LV.lt]) ?_
      simp only [go_sem]
      refine hRR _ _ ?_
      exact ⟨0, at_, rfl, (List.set_getElem?_self h).symm, by omega, by omega, by omega, by omega⟩
    · skip
      cases hf
  · skip
    have hw : IntKind.i64.wrap ((at_ : Int) + 1) = ((at_ + 1 : Nat) : Int) := w64 (by omega) (by omega)
    have hw2 : IntKind.i64.wrap (((at_ + 1 : Nat) : Int) - 1) = (at_ : Int) := by rw [w64 (by omega) (by omega)]; omega
    have hS1 : (S.set p (some (cb fl xs (at_ + 1))))[p]? = some (some (cb fl xs (at_ + 1))) := List.getElem?_set_self (lt_of_get h)
    simp only [go_sem, ↓reduceIte, hlt, decide_true, Bool.not_true]
    refine hKK2 _ _ ?_
    try clear hKK2 KK2
    refine Lwp_cond (by simp only [go_sem, ↓reduceIte, cb, h, hlt, decide_true, Bool.not_true, hw]; rfl) (fun ht => ?_) (fun hf => ?_)
    · skip
      refine Lwp_seq fun KK4 hKK4 => ?_
      refine LregionG [none] (by kernel_rfl) (by kernel_rfl) ?_
      simp -dsimp only [go_sem, ↓reduceIte, cb, h, hlt, decide_true, Bool.not_true, hw]
      repeat with_reducible refine And.intro (by first | omega | decide) ?_
      refine hKK4 _ _ ?_
      try clear hKK4 KK4
      refine Lwp_ret ?_
      simp only [LThen, LBlock, LPost, Try.results16]
      simp -dsimp only [go_sem, ↓reduceIte, cb, h, hlt, decide_true, Bool.not_true, hw]
      refine ret_self (by simp only [go_sem, LV.lt]) ?_
      simp only [go_sem]
      refine hRR _ _ ?_
      exact ⟨0, at_, rfl, (List.set_getElem?_self h).symm, by omega, by omega, by omega, by omega⟩
    · skip
      refine Lwp_skip ?_
      try simp -dsimp only [go_sem, ↓reduceIte, cb, h, hlt, decide_true, Bool.not_true, hw]
      refine hKK1 _ _ ?_
      try clear hKK1 KK1
      refine Lwp_seq fun KK5 hKK5 => ?_
      refine LregionG [none, none, none, none, none, none, none, none] (by kernel_rfl) (by kernel_rfl) ?_
      simp -dsimp only [go_sem, ↓reduceIte, cb, h, hlt, decide_true, Bool.not_true, hw]
      repeat with_reducible refine And.intro (by first | omega | decide) ?_
      refine hKK5 _ _ ?_
      try clear hKK5 KK5
      refine Lwp_seq fun KK6 hKK6 => ?_
      have hn1 : ¬ n < 1 := by simpa using hf
      have hn0 : (n ≠ 0) = True := by simp; omega
      refine LdrawE [0,1,2,3,4,5,6,7,8,9,10,11,12,13,14] [(p, cb fl xs (at_ + 1))] none (by kernel_rfl) (by kernel_rfl) (by kernel_rfl) (by kernel_rfl) (by simp only [Watch.holds, List.mem_singleton, forall_eq]; exact hS1) ?_
      simp -dsimp only [go_sem, ↓reduceIte, cb, h, hlt, decide_true, Bool.not_true, hw, hw2, u8c_getD hlt, hn0]
      try refine ⟨trivial, ?_⟩
      refine hKK6 _ _ ?_
      try clear hKK6 KK6
      refine Lwp_ret ?_
      simp only [LThen, LBlock, LPost, Try.results16]
      simp -dsimp only [go_sem, ↓reduceIte, cb, h, hlt, decide_true, Bool.not_true, hw]
      refine ret_set (lt_of_get h) (by simp only [go_sem, ↓reduceIte, LV.lt, ltLL, ltL, lt_u8c]) (by simp only [LV.lt]) ?_
      refine hRR _ _ ⟨_, at_ + 1, rfl, rfl, ?_⟩
      have hb := (xs.getD at_ 0).toNat_lt
      rw [w64 (by omega) (by omega), Int.tmod_eq_emod_of_nonneg (by omega)]
      refine ⟨Int.emod_nonneg _ (by omega), ?_, fun _ => Int.emod_lt_of_pos _ (by omega), fun h => absurd h hn1⟩
      have h0 := Int.emod_add_mul_ediv ((xs.getD at_ 0).toNat : Int) n
      have h1 : 0 ≤ n * (((xs.getD at_ 0).toNat : Int) / n) := Int.mul_nonneg (by omega) (Int.ediv_nonneg (by omega) (by omega))
      omega


/-- a call that takes choices. -/
def Cds (f : FuncId) (args : List LV) (R : LV → Prop) : Prop := ∀ (S : LS) (p : Nat) (fl : Bool) (xs : List UInt8) (a : Nat), xs.length ≤ 1000000 → S[p]? = some (some (cb fl xs a)) →
  LCalls Try.prog f (.ptr p 0 0 :: args) S (fun r S' => ∃ a', S' = S.set p (some (cb fl xs a')) ∧ R r)

section
variable {S T : LS} {p : Nat} {fl : Bool} {xs : List UInt8} {a : Nat} {f : FuncId} {args : List LV} {R : LV → Prop}
theorem Cds.at0 (h : Cds f args R) (hx : xs.length ≤ 1000000) (hp : p < S.length) : LCalls Try.prog f (.ptr p 0 0 :: args) (S.set p (some (cb fl xs a))) (fun r S' => ∃ a', S' = S.set p (some (cb fl xs a')) ∧ R r) :=
  (h _ p fl xs a hx (List.getElem?_set_self hp)).mono fun r S' ⟨a', h1, h2⟩ => ⟨a', by rw [h1, List.set_set], h2⟩

theorem Cds.at_ (h : Cds f args R) (hx : xs.length ≤ 1000000) (hp : p < S.length) : LCalls Try.prog f (.ptr p 0 0 :: args) (S.set p (some (cb fl xs a)) ++ T) (fun r S' => ∃ a', S' = S.set p (some (cb fl xs a')) ++ T ∧ R r) :=
  (h _ p fl xs a hx (by rw [List.getElem?_append_left (by simpa using hp), List.getElem?_set_self hp])).mono fun r S' ⟨a', h1, h2⟩ => ⟨a', by rw [h1, List.set_append_left _ _ (by simpa using hp), List.set_set], h2⟩

theorem Cds_intro {fn : Func} {c : Code} (d : Nat) (hf : Try.prog.funcs[f]? = some fn) (hb : fn.body = some c) (hg : goT Try.prog f = true) (hn : Nat.ble (args.length + 1) fn.ntmps = true)
    (h : ∀ (S : LS) (p : Nat) (fl : Bool) (xs : List UInt8) (a : Nat) (RR : LV → LS → Prop), xs.length ≤ 1000000 → p < S.length → (∀ r a', R r → RR r (S.set p (some (cb fl xs a')))) →
      Lwp Try.prog fn.ntmps c (LPost Try.prog fn d S RR) (argsEnv (.ptr p 0 0 :: args)) (S.set p (some (cb fl xs a)) ++ [])) : Cds f args R := fun S p fl xs a hx hp =>
  LCalls_introK d hf hb hg (by simpa using hn) fun RR hRR => by
    have := h S p fl xs a RR hx (lt_of_get hp) (fun r a' hr => hRR r _ ⟨a', rfl, hr⟩)
    rwa [List.append_nil, List.set_getElem?_self hp] at this

theorem ltLL_cb {n : Nat} : ltLL n (cb fl xs a).2 = true := by simp [cb, ltLL, ltL, LV.lt, lt_u8c]
theorem frzB_cb {n d : Nat} : frzB S n d (cb fl xs a) = cb fl xs a := by cases d <;> simp [frzB, cb, frz]

theorem ret_codes {d : Nat} {RR : LV → LS → Prop} {u : LV} (hp : p < S.length) (h1 : (frz (S.set p (some (cb fl xs a)) ++ T) S.length d u).lt S.length = true) (h2 : RR (frz (S.set p (some (cb fl xs a)) ++ T) S.length d u) (S.set p (some (cb fl xs a)))) :
    RetOk d S RR (S.set p (some (cb fl xs a)) ++ T) u :=
  ret_frame1 (b := cb fl xs a) ((Keeps.set (ids := [p]) _ (List.mem_singleton.2 rfl)).trans (Keeps.app _ T []) (fun j _ h => h.elim id (fun h => absurd h (by simp)))) hp
    (by rw [List.getElem?_append_left (by simpa using hp), List.getElem?_set_self hp]) frzB_cb.symm ltLL_cb h1 h2
theorem ret_codes0 {d : Nat} {RR : LV → LS → Prop} {u : LV} (hp : p < S.length) (h1 : (frz (S.set p (some (cb fl xs a))) S.length d u).lt S.length = true) (h2 : RR (frz (S.set p (some (cb fl xs a))) S.length d u) (S.set p (some (cb fl xs a)))) :
    RetOk d S RR (S.set p (some (cb fl xs a))) u := by
  have := ret_codes (T := []) (d := d) (RR := RR) (u := u) (fl := fl) (xs := xs) (a := a) hp
  simp only [List.append_nil] at this
  exact this h1 h2
end

theorem tbl {Q : Int → Prop} {w : Int} (l : List Int) (h0 : 0 ≤ w) (hk : w < l.length) (h : ∀ x ∈ l, Q x) : ∃ y, (l.map fun x => [LV.int .i64 x]).getD w.toNat [] = [.int .i64 y] ∧ Q y := by
  have hlt : w.toNat < l.length := by omega
  refine ⟨l[w.toNat], ?_, h _ (List.getElem_mem hlt)⟩
  rw [List.getD_eq_getElem?_getD, List.getElem?_map, List.getElem?_eq_getElem hlt]; rfl

theorem tblS {w : Int} (l : List ByteArray) (h0 : 0 ≤ w) (hk : w < l.length) : ∃ y, (l.map fun x => [LV.str x]).getD w.toNat [] = [.str y] ∧ y ∈ l := by
  have hlt : w.toNat < l.length := by omega
  refine ⟨l[w.toNat], ?_, List.getElem_mem hlt⟩
  rw [List.getD_eq_getElem?_getD, List.getElem?_map, List.getElem?_eq_getElem hlt]; rfl

def isI (v : Int) : Prop := -9223372036854775808 ≤ v ∧ v ≤ 9223372036854775807

theorem tmodI (x : Int) {m : Int} (h : 0 < m) (h2 : m ≤ 9223372036854775807) : isI (x.tmod m) := by
  have h1 := Int.tmod_lt_of_pos x h
  have h3 := Int.tmod_lt_of_pos (-x) h
  rw [Int.neg_tmod] at h3
  exact ⟨by omega, by omega⟩

theorem NextC (n : Int) (hn : -9223372036854775808 ≤ n ∧ n ≤ 9223372036854775807) : Cds 16 [.int .i64 n] (fun r => ∃ v, r = .int .i64 v ∧ 0 ≤ v ∧ v ≤ 255 ∧ (1 ≤ n → v < n) ∧ (n < 1 → v = 0)) :=
  fun S p fl xs a hx h => (Next_ok n hx hn h).mono fun r S' ⟨v, a', h1, h2, h3⟩ => ⟨a', h2, v, h1, h3⟩

set_option maxHeartbeats 400000 in
theorem IntC : Cds 20 [] (fun r => ∃ v, r = .int .i64 v ∧ isI v) := by
  refine Cds_intro 0 Try.func20 rfl (by kernel_rfl) rfl fun S p fl xs a RR hx hp hRR => ?_
  refine Lwp_seq fun KK0 hKK0 => ?_
  refine LregionG [none] (by kernel_rfl) (by kernel_rfl) ?_
  simp -dsimp only [go_sem, ↓reduceIte]
  repeat with_reducible refine And.intro (by first | omega | decide) ?_
  refine hKK0 _ _ ?_
  try clear hKK0 KK0
  refine Lwp_seq fun KK1 hKK1 => ?_
  refine LregionG [none, none] (by kernel_rfl) (by kernel_rfl) ?_
  simp -dsimp only [go_sem, ↓reduceIte]
  repeat with_reducible refine And.intro (by first | omega | decide) ?_
  refine hKK1 _ _ ?_
  try clear hKK1 KK1
  refine Lwp_seq fun KK2 hKK2 => ?_
  refine Lwp_seq fun KK3 hKK3 => ?_
  refine LregionG [none, none, none] (by kernel_rfl) (by kernel_rfl) ?_
  simp -dsimp only [go_sem, ↓reduceIte]
  refine ((NextC 4 (by omega)).at0 hx hp).k ?_
  rintro _ _ ⟨a, rfl, v, rfl, hv0, hv1, hv2, -⟩
  simp -dsimp only [go_sem, ↓reduceIte]
  refine hKK3 _ _ ?_
  try clear hKK3 KK3
  refine Lwp_cond (by simp only [go_sem, ↓reduceIte]; rfl) (fun ht => ?_) (fun hf => ?_)
  · skip
    refine Lwp_seq fun KK4 hKK4 => ?_
    refine LregionG [none, none, none, none, none, none, none, none] (by kernel_rfl) (by kernel_rfl) ?_
    simp -dsimp only [go_sem, ↓reduceIte]
    refine ((NextC 12 (by omega)).at0 hx hp).k ?_
    rintro _ _ ⟨a, rfl, w, rfl, hw0, hw1, hw2, -⟩
    simp -dsimp only [go_sem, ↓reduceIte]
    obtain ⟨y, hy, hy2⟩ := tbl (Q := isI) (w := w) [9223372036854775807, -9223372036854775808, 144115188075855872, 144115188075855873, -1, 4294967296, 1048576, 1048577, 4194304, 1000001, 0, 17] hw0 (by simpa using hw2 (by omega)) (by simp [isI])
    simp only [List.map_cons, List.map_nil] at hy
    simp only [hy, go_sem, ↓reduceIte]
    refine ⟨⟨by omega, by have := hw2 (by omega); simpa using this⟩, ?_⟩
    refine hKK4 _ _ ?_
    try clear hKK4 KK4
    refine Lwp_ret ?_
    simp only [LThen, LBlock, LPost, Try.results20]
    simp -dsimp only [go_sem, ↓reduceIte]
    refine ret_codes0 hp (by simp only [go_sem, ↓reduceIte, LV.lt, ltL, ltLL]) ?_
    simp only [go_sem, ↓reduceIte]
    refine hRR _ _ ?_
    exact ⟨y, rfl, hy2⟩
  · skip
    refine Lwp_skip ?_
    try simp -dsimp only [go_sem, ↓reduceIte]
    refine hKK2 _ _ ?_
    try clear hKK2 KK2
    refine Lwp_seq fun KK5 hKK5 => ?_
    refine LregionG [none, none, none, none] (by kernel_rfl) (by kernel_rfl) ?_
    simp -dsimp only [go_sem, ↓reduceIte]
    refine ((NextC 256 (by omega)).at0 hx hp).k ?_
    rintro _ _ ⟨a, rfl, w, rfl, hw0, hw1, hw2, -⟩
    simp -dsimp only [go_sem, ↓reduceIte]
    refine hKK5 _ _ ?_
    try clear hKK5 KK5
    refine Lwp_ret ?_
    simp only [LThen, LBlock, LPost, Try.results20]
    simp -dsimp only [go_sem, ↓reduceIte]
    refine ret_codes0 hp (by simp only [go_sem, ↓reduceIte, LV.lt, ltL, ltLL]) ?_
    simp only [go_sem, ↓reduceIte]
    refine hRR _ _ ?_
    exact ⟨_, rfl, w64_range _⟩

set_option maxHeartbeats 400000 in
theorem NameC : Cds 22 [] (fun r => ∃ s : ByteArray, r = .str s ∧ s.size ≤ 5) := by
  refine Cds_intro 0 Try.func22 rfl (by kernel_rfl) rfl fun S p fl xs a RR hx hp hRR => ?_
  refine Lwp_seq fun KK0 hKK0 => ?_
  refine LregionG [none] (by kernel_rfl) (by kernel_rfl) ?_
  simp -dsimp only [go_sem, ↓reduceIte]
  repeat with_reducible refine And.intro (by first | omega | decide) ?_
  refine hKK0 _ _ ?_
  try clear hKK0 KK0
  refine Lwp_seq fun KK1 hKK1 => ?_
  refine LregionG [none, none, none, none, none, none] (by kernel_rfl) (by kernel_rfl) ?_
  simp -dsimp only [go_sem, ↓reduceIte]
  refine ((NextC 5 (by omega)).at0 hx hp).k ?_
  rintro _ _ ⟨a, rfl, w, rfl, hw0, hw1, hw2, -⟩
  simp -dsimp only [go_sem, ↓reduceIte]
  obtain ⟨y, hy, hy2⟩ := tblS (w := w) [⟨#[]⟩, ⟨#[65, 66, 49, 50, 51]⟩, ⟨#[120, 32, 121]⟩, ⟨#[0, 255]⟩, ⟨#[90, 90, 90, 90, 90]⟩] hw0 (by simpa using hw2 (by omega))
  simp only [List.map_cons, List.map_nil] at hy
  simp only [hy, go_sem, ↓reduceIte]
  refine ⟨⟨by omega, by have := hw2 (by omega); simpa using this⟩, ?_⟩
  have hy3 : y.size ≤ 5 := by
    clear hy
    simp only [List.mem_cons, List.not_mem_nil, or_false] at hy2
    rcases hy2 with rfl | rfl | rfl | rfl | rfl <;> decide
  refine hKK1 _ _ ?_
  try clear hKK1 KK1
  refine Lwp_ret ?_
  simp only [LThen, LBlock, LPost, Try.results22]
  simp -dsimp only [go_sem, ↓reduceIte]
  refine ret_codes0 hp (by simp only [go_sem, ↓reduceIte, LV.lt, ltL, ltLL]) ?_
  simp only [go_sem, ↓reduceIte]
  refine hRR _ _ ?_
  exact ⟨y, rfl, hy3⟩

set_option maxHeartbeats 400000 in
theorem Clip_ok {S : LS} (x lo hi : Int) : LCalls Try.prog 55 [.int .i64 x, .int .i64 lo, .int .i64 hi] S (fun r S' => r = .int .i64 (max lo (min x hi)) ∧ S = S') := by
  refine LCalls_introK 0 Try.func55 rfl (by kernel_rfl) rfl fun RR hRR => ?_
  refine Lwp_seq fun KK0 hKK0 => ?_
  refine LregionG [none] (by kernel_rfl) (by kernel_rfl) ?_
  simp -dsimp only [go_sem, ↓reduceIte]
  repeat with_reducible refine And.intro (by first | omega | decide) ?_
  refine hKK0 _ _ ?_
  try clear hKK0 KK0
  refine Lwp_seq fun KK1 hKK1 => ?_
  refine LregionG [none, none, none, none, none, none] (by kernel_rfl) (by kernel_rfl) ?_
  simp -dsimp only [go_sem, ↓reduceIte]
  repeat with_reducible refine And.intro (by first | omega | decide) ?_
  refine hKK1 _ _ ?_
  try clear hKK1 KK1
  refine Lwp_ret ?_
  simp only [LThen, LBlock, LPost, Try.results55]
  simp -dsimp only [go_sem, ↓reduceIte]
  refine ret_self (by simp only [go_sem, LV.lt]) ?_
  simp only [go_sem]
  refine hRR _ _ ?_
  exact ⟨by congr 1; omega, rfl⟩

set_option maxHeartbeats 400000 in
theorem Nodes22_ok {S : LS} : LCalls Try.prog 54 [.int .i64 1] S (fun r S' => r = .int .i64 12 ∧ S = S') := by
  refine LCalls_introK 0 Try.func54 rfl (by kernel_rfl) rfl fun RR hRR => ?_
  refine Lwp_seq fun KK0 hKK0 => ?_
  refine LregionG [none] (by kernel_rfl) (by kernel_rfl) ?_
  simp -dsimp only [go_sem, ↓reduceIte]
  repeat with_reducible refine And.intro (by first | omega | decide) ?_
  refine hKK0 _ _ ?_
  try clear hKK0 KK0
  refine Lwp_seq fun KK1 hKK1 => ?_
  refine LregionG [none, none, none, none, none, none] (by kernel_rfl) (by kernel_rfl) ?_
  simp -dsimp only [go_sem, ↓reduceIte]
  repeat with_reducible refine And.intro (by first | omega | decide) ?_
  refine hKK1 _ _ ?_
  try clear hKK1 KK1
  refine Lwp_ret ?_
  simp only [LThen, LBlock, LPost, Try.results54]
  simp -dsimp only [go_sem, ↓reduceIte]
  refine ret_self (by simp only [go_sem, LV.lt]) ?_
  simp only [go_sem]
  refine hRR _ _ ?_
  exact ⟨rfl, rfl⟩


theorem w64_lo (n : Int) : (-9223372036854775808 ≤ IntKind.i64.wrap n) = True := eq_true (w64_range n).1
theorem w64_hi (n : Int) : (IntKind.i64.wrap n ≤ 9223372036854775807) = True := eq_true (w64_range n).2

set_option maxHeartbeats 400000 in
theorem PlaceC : Cds 23 [] (fun r => ∃ f x y z : Int, r = .agg [.int .i64 f, .int .i64 x, .int .i64 y, .int .i64 z] ∧ isI f ∧ isI x ∧ isI y ∧ isI z) := by
  refine Cds_intro 0 Try.func23 rfl (by kernel_rfl) rfl fun S p fl xs a RR hx hp hRR => ?_
  refine Lwp_seq fun KK0 hKK0 => ?_
  refine LregionG [none] (by kernel_rfl) (by kernel_rfl) ?_
  simp -dsimp only [go_sem, ↓reduceIte]
  repeat with_reducible refine And.intro (by first | omega | decide) ?_
  refine hKK0 _ _ ?_
  try clear hKK0 KK0
  refine Lwp_seq fun KK1 hKK1 => ?_
  refine LregionG [none, none, none, none] (by kernel_rfl) (by kernel_rfl) ?_
  simp -dsimp only [go_sem, ↓reduceIte]
  refine ((NextC 121 (by omega)).at_ hx hp).k ?_
  rintro _ _ ⟨a, rfl, v, rfl, hv0, hv1, hv2, -⟩
  have e1 : IntKind.i64.wrap (7 * v) = 7 * v := w64 (by omega) (by omega)
  have e2 : IntKind.i64.wrap (840 - 7 * v) = 840 - 7 * v := w64 (by omega) (by omega)
  have ed : (840 - 7 * v).tdiv 7 = (840 - 7 * v) / 7 := Int.tdiv_eq_ediv_of_nonneg (by omega)
  have e3 : IntKind.i64.wrap ((840 - 7 * v) / 7) = (840 - 7 * v) / 7 := w64 (by omega) (by omega)
  have e4 : IntKind.i64.wrap ((840 - 7 * v) / 7 + 1) = (840 - 7 * v) / 7 + 1 := w64 (by omega) (by omega)
  simp -dsimp only [go_sem, ↓reduceIte, e1, e2, ed, e3, e4]
  refine hKK1 _ _ ?_
  try clear hKK1 KK1
  refine Lwp_seq fun KK2 hKK2 => ?_
  refine LregionG [none, none, none, none, none, none, none, none] (by kernel_rfl) (by kernel_rfl) ?_
  simp -dsimp only [go_sem, ↓reduceIte, e1, e2, ed, e3, e4]
  refine ((NextC ((840 - 7 * v) / 7 + 1) (by omega)).at_ hx hp).k ?_
  rintro _ _ ⟨a, rfl, w, rfl, hw0, hw1, hw2, -⟩
  simp -dsimp only [go_sem, ↓reduceIte, e1, e2, ed, e3, e4]
  refine hKK2 _ _ ?_
  try clear hKK2 KK2
  refine Lwp_seq fun KK3 hKK3 => ?_
  refine LregionG [none, none, none, none, none, none, none, none, none, none] (by kernel_rfl) (by kernel_rfl) ?_
  simp -dsimp only [go_sem, ↓reduceIte, e1, e2, ed, e3, e4]
  refine ((NextC 20 (by omega)).at_ hx hp).k ?_
  rintro _ _ ⟨a, rfl, z, rfl, hz0, hz1, hz2, -⟩
  simp -dsimp only [go_sem, ↓reduceIte, e1, e2, ed, e3, e4]
  refine hKK3 _ _ ?_
  try clear hKK3 KK3
  refine Lwp_ret ?_
  simp only [LThen, LBlock, LPost, Try.results23]
  simp -dsimp only [go_sem, ↓reduceIte, e1, e2, ed, e3, e4]
  refine ret_codes hp (by simp only [go_sem, ↓reduceIte, LV.lt, ltL, ltLL]) ?_
  simp only [go_sem, ↓reduceIte]
  refine hRR _ _ ?_
  exact ⟨_, _, _, _, rfl, ⟨by omega, by omega⟩, ⟨by omega, by omega⟩, w64_range _, w64_range _⟩

set_option maxHeartbeats 400000 in
theorem SignedC (n : Int) (hn : 0 ≤ n ∧ n ≤ 1000000000) : Cds 56 [.int .i64 n] (fun r => ∃ v, r = .int .i64 v ∧ isI v) := by
  refine Cds_intro 0 Try.func56 rfl (by kernel_rfl) rfl fun S p fl xs a RR hx hp hRR => ?_
  refine Lwp_seq fun KK0 hKK0 => ?_
  refine LregionG [none] (by kernel_rfl) (by kernel_rfl) ?_
  simp -dsimp only [go_sem, ↓reduceIte]
  repeat with_reducible refine And.intro (by first | omega | decide) ?_
  refine hKK0 _ _ ?_
  try clear hKK0 KK0
  refine Lwp_seq fun KK1 hKK1 => ?_
  refine LregionG [none, none, none, none, none, none, none, none, none, none, none, none, none, none] (by kernel_rfl) (by kernel_rfl) ?_
  simp -dsimp only [go_sem, ↓reduceIte]
  refine ((NextC 256 (by omega)).at0 hx hp).k ?_
  rintro _ _ ⟨a, rfl, u, rfl, hu0, hu1, hu2, -⟩
  simp -dsimp only [go_sem, ↓reduceIte]
  refine ((NextC 256 (by omega)).at0 hx hp).k ?_
  rintro _ _ ⟨a, rfl, v, rfl, hv0, hv1, hv2, -⟩
  simp -dsimp only [go_sem, ↓reduceIte]
  refine ((NextC 256 (by omega)).at0 hx hp).k ?_
  rintro _ _ ⟨a, rfl, w, rfl, hw0, hw1, hw2, -⟩
  simp -dsimp only [go_sem, ↓reduceIte]
  have e1 : IntKind.i64.wrap (n + 1) = n + 1 := w64 (by omega) (by omega)
  have e2 : (¬ n + 1 = 0) = True := by simp; omega
  simp only [e1, e2, true_and]
  refine hKK1 _ _ ?_
  try clear hKK1 KK1
  refine Lwp_seq fun KK2 hKK2 => ?_
  refine Lwp_seq fun KK3 hKK3 => ?_
  refine LregionG [none, none, none] (by kernel_rfl) (by kernel_rfl) ?_
  simp -dsimp only [go_sem, ↓reduceIte]
  refine ((NextC 2 (by omega)).at0 hx hp).k ?_
  rintro _ _ ⟨a, rfl, z, rfl, hz0, hz1, hz2, -⟩
  simp -dsimp only [go_sem, ↓reduceIte]
  refine hKK3 _ _ ?_
  try clear hKK3 KK3
  refine Lwp_cond (by simp only [go_sem, ↓reduceIte]; rfl) (fun ht => ?_) (fun hf => ?_)
  · skip
    refine Lwp_seq fun KK4 hKK4 => ?_
    refine LregionG [none, none, none] (by kernel_rfl) (by kernel_rfl) ?_
    simp -dsimp only [go_sem, ↓reduceIte]
    repeat with_reducible refine And.intro (by first | omega | decide) ?_
    refine hKK4 _ _ ?_
    try clear hKK4 KK4
    refine Lwp_ret ?_
    simp only [LThen, LBlock, LPost, Try.results56]
    simp -dsimp only [go_sem, ↓reduceIte]
    refine ret_codes0 hp (by simp only [go_sem, ↓reduceIte, LV.lt, ltL, ltLL]) ?_
    simp only [go_sem, ↓reduceIte]
    refine hRR _ _ ?_
    exact ⟨_, rfl, w64_range _⟩
  · skip
    refine Lwp_skip ?_
    try simp -dsimp only [go_sem, ↓reduceIte]
    refine hKK2 _ _ ?_
    try clear hKK2 KK2
    refine Lwp_seq fun KK5 hKK5 => ?_
    refine LregionG [none, none] (by kernel_rfl) (by kernel_rfl) ?_
    simp -dsimp only [go_sem, ↓reduceIte]
    repeat with_reducible refine And.intro (by first | omega | decide) ?_
    refine hKK5 _ _ ?_
    try clear hKK5 KK5
    refine Lwp_ret ?_
    simp only [LThen, LBlock, LPost, Try.results56]
    simp -dsimp only [go_sem, ↓reduceIte]
    refine ret_codes0 hp (by simp only [go_sem, ↓reduceIte, LV.lt, ltL, ltLL]) ?_
    simp only [go_sem, ↓reduceIte]
    refine hRR _ _ ?_
    exact ⟨_, rfl, tmodI _ (by omega) (by omega)⟩

end Go.Proofs.Ytdhngmldmalbbaa
end
section
set_option linter.all false
namespace Go.Proofs.Ytdhngmldmalbbaa
open Go.Lift Go.RowKit Go.Store
set_option linter.unusedSimpArgs false
set_option linter.unusedVariables false
set_option maxHeartbeats 400000 in
theorem VectorC (n m : Int) (hn : 0 ≤ n ∧ n ≤ 1000000) (hm : 0 ≤ m ∧ m ≤ 1000000000) : Cds 37 [.int .i64 n, .int .i64 m] (fun r => ∃ (f : Bool) (es : List (List LV)), r = .sl f es ∧ (es.length : Int) = n ∧ ∀ e ∈ es, ok sI e) := by
  refine Cds_intro 1 Try.func37 rfl (by kernel_rfl) rfl fun S p fl xs a RR hx hp hRR => ?_
  refine Lwp_seq fun KK0 hKK0 => ?_
  refine LregionG [none] (by kernel_rfl) (by kernel_rfl) ?_
  simp -dsimp only [go_sem, ↓reduceIte]
  repeat with_reducible refine And.intro (by first | omega | decide) ?_
  refine hKK0 _ _ ?_
  try clear hKK0 KK0
  refine Lwp_seq fun KK1 hKK1 => ?_
  refine LregionG [none, none, none, none, none, none, none, none, none, none, none, none, none, none, none, none] (by kernel_rfl) (by kernel_rfl) ?_
  simp -dsimp only [go_sem, ↓reduceIte]
  refine ((SignedC m hm).at0 hx hp).k ?_
  rintro _ _ ⟨a, rfl, v1, rfl, i1⟩
  simp -dsimp only [go_sem, ↓reduceIte]
  refine ((SignedC m hm).at0 hx hp).k ?_
  rintro _ _ ⟨a, rfl, v2, rfl, i2⟩
  simp -dsimp only [go_sem, ↓reduceIte]
  refine ((SignedC m hm).at0 hx hp).k ?_
  rintro _ _ ⟨a, rfl, v3, rfl, i3⟩
  simp -dsimp only [go_sem, ↓reduceIte]
  refine ((SignedC 9 (by omega)).at0 hx hp).k ?_
  rintro _ _ ⟨a, rfl, v4, rfl, i4⟩
  simp -dsimp only [go_sem, ↓reduceIte]
  refine hKK1 _ _ ?_
  try clear hKK1 KK1
  refine Lwp_seq fun KK2 hKK2 => ?_
  refine LregionG [none] (by kernel_rfl) (by kernel_rfl) ?_
  simp -dsimp only [go_sem, ↓reduceIte]
  repeat with_reducible refine And.intro (by first | omega | decide) ?_
  refine hKK2 _ _ ?_
  try clear hKK2 KK2
  refine Lwp_seq fun KK3 hKK3 => ?_
  refine Lwp_seq fun KK4 hKK4 => ?_
  refine LregionG [none] (by kernel_rfl) (by kernel_rfl) ?_
  simp -dsimp only [go_sem, ↓reduceIte]
  repeat with_reducible refine And.intro (by first | omega | decide) ?_
  refine hKK4 _ _ ?_
  try clear hKK4 KK4
  refine Lwp_block ?_
  obtain ⟨l, hl, hlI⟩ : ∃ l : List Int, l = [v1, v2, v3, v4, 0, m, IntKind.i64.wrap (0 - m)] ∧ ∀ x ∈ l, isI x := ⟨_, rfl, by
      simp only [List.mem_cons, List.not_mem_nil, or_false]
      rintro x (rfl | rfl | rfl | rfl | rfl | rfl | rfl)
      · exact i1
      · exact i2
      · exact i3
      · exact i4
      · exact ⟨by omega, by omega⟩
      · exact ⟨by omega, by omega⟩
      · exact w64_range _⟩
  refine Lwp_loopK [0, 1, 7, 8, 9] (fun k us S' => ∃ (a : Nat) (T : LS) (u : LV) (es : List (List LV)) (i : Int), S' = S.set p (some (cb fl xs a)) ++ T ∧ us = [.ptr p 0 0, .int .i64 n, .sl true (l.map fun x => [LV.int .i64 x]), u, .int .i64 i] ∧ RowT S.length T 0 u 1 es ∧ (∀ e ∈ es, ok sI e) ∧ (es.length : Int) = i ∧ 0 ≤ i ∧ i ≤ n ∧ (k : Int) = n - i) n.toNat rfl (⟨a, [], _, [], 0, by simp only [go_sem, ↓reduceIte], by simp only [go_sem, ↓reduceIte, hl], RowT.nil, by simp, rfl, by omega, by omega, by omega⟩) ?_
  rintro k us S2 ⟨a, T, u, es, i, rfl, rfl, hrow, hok, hlen, hi0, hin, hk⟩ II hII
  have hl7 : l.length = 7 := by rw [hl]; rfl
  refine Lwp_seq fun KK5 hKK5 => ?_
  refine Lwp_seq fun KK6 hKK6 => ?_
  refine LregionG [none, none, none] (by kernel_rfl) (by kernel_rfl) ?_
  simp -dsimp only [go_sem, ↓reduceIte]
  repeat with_reducible refine And.intro (by first | omega | decide) ?_
  refine hKK6 _ _ ?_
  try clear hKK6 KK6
  refine Lwp_cond (by simp only [go_sem, ↓reduceIte]; rfl) (fun ht => ?_) (fun hf => ?_)
  · skip
    refine Lwp_skip ?_
    try simp -dsimp only [go_sem, ↓reduceIte]
    refine hKK5 _ _ ?_
    try clear hKK5 KK5
    refine Lwp_seq fun KK7 hKK7 => ?_
    refine Lwp_block ?_
    refine LregionG [none, none, none, none, none, none, none, none, none] (by kernel_rfl) (by kernel_rfl) ?_
    simp -dsimp only [go_sem, ↓reduceIte]
    refine ((NextC 7 (by omega)).at_ hx hp).k ?_
    rintro _ _ ⟨a, rfl, w, rfl, hw0, hw1, hw2, -⟩
    simp -dsimp only [go_sem, ↓reduceIte]
    obtain ⟨y, hy, hy2⟩ := tbl (Q := isI) (w := w) l hw0 (by rw [hl7]; have := hw2 (by omega); omega) hlI
    simp only [hy, hl7, go_sem, ↓reduceIte]
    refine ⟨⟨by omega, by have := hw2 (by omega); omega⟩, ?_⟩
    refine append_own (by simp) hrow rfl (by simp only [go_sem]; rfl) (by simp only [go_sem]; first | exact ⟨rfl, rfl⟩ | exact ⟨rfl, rfl, rfl⟩ | rfl) (by simp only [go_sem]) (by simp only [go_sem, ↓reduceIte]) (by simp only [go_sem, ↓reduceIte]; rfl) (by simp) (.inr (by simp)) (by simp only [LIM, List.length_cons, List.length_nil]; omega) (Nat.zero_le _) fun T' hT' hrow' hpre' => ?_
    clear hrow
    simp -dsimp only [go_sem, ↓reduceIte]
    have hi1 : IntKind.i64.wrap (i + 1) = i + 1 := w64 (by omega) (by simp at ht; omega)
    refine hKK7 _ _ ?_
    try clear hKK7 KK7
    refine LregionG [none, none, none] (by kernel_rfl) (by kernel_rfl) ?_
    simp -dsimp only [go_sem, ↓reduceIte, hi1]
    repeat with_reducible refine And.intro (by first | omega | decide) ?_
    simp at ht
    refine hII (k - 1) _ _ (by omega) ⟨a, T', _, es ++ [[.int .i64 y]], i + 1, rfl, rfl, hrow', ?_, by simp; omega, by omega, by omega, by omega⟩
    intro e he
    rcases List.mem_append.1 he with he | he
    · exact hok e he
    · simp at he; subst he; exact ⟨rfl, hy2.1, hy2.2, trivial⟩
  · skip
    refine Lwp_exit ?_
    simp -dsimp only [go_sem, ↓reduceIte]
    refine hKK3 _ _ ?_
    try clear hKK3 KK3
    refine Lwp_seq fun KK8 hKK8 => ?_
    obtain rfl : i = n := by simp at hf; omega
    refine LregionG [none, none] (by kernel_rfl) (by kernel_rfl) ?_
    simp -dsimp only [go_sem, ↓reduceIte]
    repeat with_reducible refine And.intro (by first | omega | decide) ?_
    refine hKK8 _ _ ?_
    try clear hKK8 KK8
    refine Lwp_ret ?_
    simp only [LThen, LBlock, LPost, Try.results37]
    simp -dsimp only [go_sem, ↓reduceIte]
    have hz := hrow.frz1 (A := S.set p (some (cb fl xs a))) (by simp)
    obtain ⟨f, hz⟩ := hz
    refine ret_codes hp (by rw [hz]; exact lt_int fun e he => ok_lt (hok e he)) ?_
    rw [hz]
    refine hRR _ _ ⟨f, es, rfl, hlen, hok⟩

end Go.Proofs.Ytdhngmldmalbbaa
end
section
set_option linter.all false
namespace Go.Proofs.Ytdhngmldmalbbaa
open Go.Lift Go.RowKit Go.Store
set_option linter.unusedSimpArgs false
set_option linter.unusedVariables false

/-- the readings of a report that was made. -/
def RepOk (us : List LV) : Prop := ∃ (k : Int) (s : ByteArray) (t f x y z : Int) (fl : Bool) (es : List (List LV)), us = [.int .i64 k, .str s, .int .i64 t, .int .i64 f, .int .i64 x, .int .i64 y, .int .i64 z, .sl fl es] ∧
  isI k ∧ s.size ≤ 5 ∧ isI t ∧ isI f ∧ isI x ∧ isI y ∧ isI z ∧ es.length ≤ 2 ∧ ∀ e ∈ es, ok sRd e

set_option maxHeartbeats 400000 in
theorem ReportC : Cds 21 [] (fun r => ∃ us, r = .agg us ∧ RepOk us) := by
  refine Cds_intro 2 Try.func21 rfl (by kernel_rfl) rfl fun S p fl xs a RR hx hp hRR => ?_
  refine Lwp_seq fun KK0 hKK0 => ?_
  refine LregionG [none] (by kernel_rfl) (by kernel_rfl) ?_
  simp -dsimp only [go_sem, ↓reduceIte]
  repeat with_reducible refine And.intro (by first | omega | decide) ?_
  refine hKK0 _ _ ?_
  try clear hKK0 KK0
  refine Lwp_seq fun KK1 hKK1 => ?_
  refine LregionG [none, none, none, none, none, none, none, none, none, none, none] (by kernel_rfl) (by kernel_rfl) ?_
  simp -dsimp only [go_sem, ↓reduceIte]
  refine (IntC.at_ hx hp).k ?_
  rintro _ _ ⟨a, rfl, k, rfl, ik⟩
  simp -dsimp only [go_sem, ↓reduceIte]
  refine (NameC.at_ hx hp).k ?_
  rintro _ _ ⟨a, rfl, s, rfl, is⟩
  simp -dsimp only [go_sem, ↓reduceIte]
  refine (IntC.at_ hx hp).k ?_
  rintro _ _ ⟨a, rfl, t, rfl, it⟩
  simp -dsimp only [go_sem, ↓reduceIte]
  refine (PlaceC.at_ hx hp).k ?_
  rintro _ _ ⟨a, rfl, f, x, y, z, rfl, jf, jx, jy, jz⟩
  simp -dsimp only [go_sem, ↓reduceIte]
  refine hKK1 _ _ ?_
  try clear hKK1 KK1
  refine Lwp_seq fun KK2 hKK2 => ?_
  refine Lwp_seq fun KK3 hKK3 => ?_
  refine LregionG [none, none, none] (by kernel_rfl) (by kernel_rfl) ?_
  simp -dsimp only [go_sem, ↓reduceIte]
  refine ((NextC 3 (by omega)).at_ hx hp).k ?_
  rintro _ _ ⟨a, rfl, n, rfl, hn0, hn1, hn2, -⟩
  simp -dsimp only [go_sem, ↓reduceIte]
  refine hKK3 _ _ ?_
  try clear hKK3 KK3
  refine Lwp_block ?_
  refine Lwp_loopK [0, 2, 3, 4] (fun m us S' => ∃ (a : Nat) (T : LS) (u : LV) (es : List (List LV)) (i : Int), S' = S.set p (some (cb fl xs a)) ++ T ∧ us = [.ptr p 0 0, .ptr S.length 0 0, .ptr (S.length + 1) 0 0, .int .i64 i] ∧ 2 ≤ T.length ∧
      T[0]? = some (some (8, [[.int .i64 0, .str ⟨#[]⟩, .int .i64 0, .int .i64 0, .int .i64 0, .int .i64 0, .int .i64 0, .sl true []]])) ∧
      T[1]? = some (some (8, [[.int .i64 k, .str s, .int .i64 t, .int .i64 f, .int .i64 x, .int .i64 y, .int .i64 z, u]])) ∧ RowT S.length T 2 u 2 es ∧ (∀ e ∈ es, ok sRd e) ∧ (es.length : Int) + i ≤ 2 ∧ 0 ≤ i ∧ (m : Int) = i) n.toNat rfl (⟨a, _, _, [], n, rfl, by simp only [go_sem, ↓reduceIte], by simp only [go_sem, ↓reduceIte], by simp only [go_sem, ↓reduceIte], by simp only [go_sem, ↓reduceIte], RowT.nil, by simp, by have := hn2 (by omega); simp; omega, hn0, by omega⟩) ?_
  rintro mm us S2 ⟨a, T, u, es, i, rfl, rfl, hT, hT0, hT1, hrow, hok, hlen, hi0, hm⟩ II hII
  refine Lwp_seq fun KK4 hKK4 => ?_
  refine Lwp_seq fun KK5 hKK5 => ?_
  refine LregionG [none, none] (by kernel_rfl) (by kernel_rfl) ?_
  simp -dsimp only [go_sem, ↓reduceIte, hT1]
  repeat with_reducible refine And.intro (by first | omega | decide) ?_
  refine hKK5 _ _ ?_
  try clear hKK5 KK5
  refine Lwp_cond (by simp only [go_sem, ↓reduceIte, hT1]; rfl) (fun ht => ?_) (fun hf => ?_)
  · skip
    refine Lwp_skip ?_
    try simp -dsimp only [go_sem, ↓reduceIte, hT1]
    refine hKK4 _ _ ?_
    try clear hKK4 KK4
    refine Lwp_seq fun KK6 hKK6 => ?_
    refine Lwp_block ?_
    refine LdrawE [0,1,2,4,3,5,6,7,8,9,10] [(S.length + 1, (8, [[.int .i64 k, .str s, .int .i64 t, .int .i64 f, .int .i64 x, .int .i64 y, .int .i64 z, u]]))] (some 10) (by kernel_rfl) (by kernel_rfl) (by kernel_rfl) (by kernel_rfl) (by simp only [Watch.holds, List.mem_singleton, forall_eq]; rw [get_setapp]; exact hT1) ?_
    simp -dsimp only [go_sem, ↓reduceIte, hT1, hT1]
    refine ((NextC 12 (by omega)).at_ hx hp).k ?_
    rintro _ _ ⟨a, rfl, e, rfl, he0, he1, he2, -⟩
    simp -dsimp only [go_sem, ↓reduceIte, hT1]
    refine (IntC.at_ hx hp).k ?_
    rintro _ _ ⟨a, rfl, v, rfl, iv⟩
    simp -dsimp only [go_sem, ↓reduceIte, hT1]
    refine append_own (by simp) hrow rfl (by simp only [go_sem]; rfl) (by simp only [go_sem]; first | exact ⟨rfl, rfl⟩ | exact ⟨rfl, rfl, rfl⟩ | rfl) (by simp only [go_sem]) (by simp only [go_sem, ↓reduceIte]) (by simp only [go_sem, ↓reduceIte]; rfl) (by simp) (.inr (by simp)) (by simp only [LIM, List.length_cons, List.length_nil]; omega) (hT) fun T' hT' hrow' hpre' => ?_
    clear hrow
    have hT1' := (hpre' 1 (by omega)).trans hT1
    have hT0' := (hpre' 0 (by omega)).trans hT0
    have hi1 : IntKind.i64.wrap (i - 1) = i - 1 := w64 (by omega) (by omega)
    simp -dsimp only [go_sem, ↓reduceIte, hT1, hT1']
    refine hKK6 _ _ ?_
    try clear hKK6 KK6
    refine LregionG [none, none, none] (by kernel_rfl) (by kernel_rfl) ?_
    simp -dsimp only [go_sem, ↓reduceIte, hT1, hi1]
    repeat with_reducible refine And.intro (by first | omega | decide) ?_
    have ht2 : 0 < i := by simpa using ht
    refine hII (mm - 1) _ _ (by omega) ⟨a, _, _, es ++ [_], i - 1, rfl, rfl, by simp; omega, ?_, ?_, hrow'.mono (Nat.le_refl _) (fun k hk hl => List.getElem?_set_ne (by omega)), ?_, by simp; omega, by omega, by omega⟩
    · rw [List.getElem?_set_ne (by omega)]; exact hT0'
    · rw [List.getElem?_set_self (by omega)]
      simp
    · intro e1 he
      rcases List.mem_append.1 he with he | he
      · exact hok e1 he
      · simp at he; subst he; exact ⟨rfl, by omega, by omega, rfl, iv.1, iv.2, trivial⟩
  · skip
    refine Lwp_exit ?_
    simp -dsimp only [go_sem, ↓reduceIte, hT1]
    refine hKK2 _ _ ?_
    try clear hKK2 KK2
    refine Lwp_seq fun KK7 hKK7 => ?_
    have hs0 : ∀ v, (T.set 0 v)[0]? = some v := fun v => List.getElem?_set_self (by omega)
    refine LregionG [none, none] (by kernel_rfl) (by kernel_rfl) ?_
    simp -dsimp only [go_sem, ↓reduceIte, hT1, hT0, hs0]
    
    refine hKK7 _ _ ?_
    try clear hKK7 KK7
    refine Lwp_ret ?_
    simp only [LThen, LBlock, LPost, Try.results21]
    simp -dsimp only [go_sem, ↓reduceIte, hT1, hT0, hs0]
    have hz := (hrow.mono (T' := T.set 0 (some (8, [[.int .i64 k, .str s, .int .i64 t, .int .i64 f, .int .i64 x, .int .i64 y, .int .i64 z, u]]))) (Nat.le_refl _) (fun k hk hl => List.getElem?_set_ne (by omega))).frz1 (A := S.set p (some (cb fl xs a))) (by simp)
    obtain ⟨full, hz⟩ := hz
    refine ret_codes hp (by simp only [go_sem, ↓reduceIte, hz, ltL, LV.lt, lt_int fun e he => ok_lt (hok e he), Bool.and_self]) ?_
    simp only [go_sem, ↓reduceIte, hz]
    exact hRR _ _ ⟨_, rfl, k, s, t, f, x, y, z, full, es, rfl, ik, is, it, jf, jx, jy, jz, by omega, hok⟩

set_option maxHeartbeats 400000 in
theorem New_ok {S : LS} (f0 : Bool) (xs : List UInt8) (m : Int) (hm : 0 ≤ m ∧ m ≤ 1000000) : LCalls Try.prog 7 [.sl f0 (xs.map u8c), .int .i64 m] S (fun r S' => ∃ (f : Bool) (ys : List UInt8), ys.length ≤ 1000000 ∧ r = .ptr S.length 0 0 ∧ S' = S ++ [some (cb f ys 0)]) := by
  refine LCalls_introK 0 Try.func7 rfl (by kernel_rfl) rfl fun RR hRR => ?_
  refine Lwp_seq fun KK0 hKK0 => ?_
  refine LregionG [none] (by kernel_rfl) (by kernel_rfl) ?_
  simp -dsimp only [go_sem, ↓reduceIte]
  repeat with_reducible refine And.intro (by first | omega | decide) ?_
  refine hKK0 _ _ ?_
  try clear hKK0 KK0
  refine Lwp_seq fun KK1 hKK1 => ?_
  refine Lwp_seq fun KK2 hKK2 => ?_
  refine LregionG [none, none, none, none] (by kernel_rfl) (by kernel_rfl) ?_
  simp -dsimp only [go_sem, ↓reduceIte]
  repeat with_reducible refine And.intro (by first | omega | decide) ?_
  refine hKK2 _ _ ?_
  try clear hKK2 KK2
  refine Lwp_cond (by simp only [go_sem, ↓reduceIte]; rfl) (fun ht => ?_) (fun hf => ?_)
  · skip
    refine LregionG [none, none, none, none] (by kernel_rfl) (by kernel_rfl) ?_
    simp -dsimp only [go_sem, ↓reduceIte]
    have hlt : m < (xs.length : Int) := by simpa using ht
    refine ⟨⟨by omega, by omega, fun e he => ?_⟩, ?_⟩
    · cases xs with
      | nil => simp at he
      | cons x xs => simp at he; subst he; rfl
    simp only [Nat.sub_zero, ← List.map_take, go_sem, ↓reduceIte]
    refine hKK1 _ _ ?_
    try clear hKK1 KK1
    refine Lwp_seq fun KK3 hKK3 => ?_
    refine LregionG [none, none, none, none] (by kernel_rfl) (by kernel_rfl) ?_
    simp -dsimp only [go_sem, ↓reduceIte]
    repeat with_reducible refine And.intro (by first | omega | decide) ?_
    refine hKK3 _ _ ?_
    try clear hKK3 KK3
    refine Lwp_ret ?_
    simp only [LThen, LBlock, LPost, Try.results7]
    simp -dsimp only [go_sem, ↓reduceIte]
    refine ret_keep (hRR _ _ ⟨_, xs.take m.toNat, by simp; omega, rfl, rfl⟩)
  · skip
    refine Lwp_skip ?_
    try simp -dsimp only [go_sem, ↓reduceIte]
    refine hKK1 _ _ ?_
    try clear hKK1 KK1
    refine Lwp_seq fun KK4 hKK4 => ?_
    refine LregionG [none, none, none, none] (by kernel_rfl) (by kernel_rfl) ?_
    simp -dsimp only [go_sem, ↓reduceIte]
    repeat with_reducible refine And.intro (by first | omega | decide) ?_
    refine hKK4 _ _ ?_
    try clear hKK4 KK4
    refine Lwp_ret ?_
    simp only [LThen, LBlock, LPost, Try.results7]
    simp -dsimp only [go_sem, ↓reduceIte]
    refine ret_keep (hRR _ _ ⟨f0, xs, by simp at hf; omega, rfl, rfl⟩)

end Go.Proofs.Ytdhngmldmalbbaa
end
section
set_option linter.all false
namespace Go.Proofs.Ytdhngmldmalbbaa
open Go.Lift Go.RowKit Go.Store
set_option linter.unusedSimpArgs false
set_option linter.unusedVariables false

abbrev V (n : Int) : LV := .int .i64 n

/-- a call that reads pure values and gives a pure value. -/
def Pc (f : FuncId) (args : List LV) (R : LV → Prop) : Prop := ∀ S : LS, LCalls Try.prog f args S (fun r S' => R r ∧ S = S')

theorem Pc_intro {f : FuncId} {args : List LV} {R : LV → Prop} {fn : Func} {c : Code} (d : Nat) (hf : Try.prog.funcs[f]? = some fn) (hb : fn.body = some c) (hg : goT Try.prog f = true) (hn : Nat.ble args.length fn.ntmps = true)
    (h : ∀ (S : LS) (RR : LV → LS → Prop), (∀ r, R r → RR r S) → Lwp Try.prog fn.ntmps c (LPost Try.prog fn d S RR) (argsEnv args) (S ++ [])) : Pc f args R := fun S =>
  LCalls_introK d hf hb hg hn fun RR hRR => by
    have := h S RR fun r hr => hRR r _ ⟨hr, rfl⟩
    rwa [List.append_nil] at this

theorem Pc.k' {f : FuncId} {args : List LV} {R : LV → Prop} (h : Pc f args R) {S : LS} {d : Option Tmp} {K : Env → LS → Prop} {t : Tag K} {env : Env} (hk : ∀ r, R r → K (env.putO d r) S) : LCK Try.prog f args S d K t env :=
  (h S).k fun r S' ⟨hr, hS⟩ => hS ▸ hk r hr

/-- the corners of a face. -/
def cor (f : Int) : Int × Int × Int :=
  if f / 5 = 0 then (0, 1 + f % 5, 1 + (f % 5 + 1) % 5) else if f / 5 = 1 then (1 + f % 5, 6 + f % 5, 1 + (f % 5 + 1) % 5) else if f / 5 = 2 then (6 + f % 5, 6 + (f % 5 + 1) % 5, 1 + (f % 5 + 1) % 5) else (11, 6 + (f % 5 + 1) % 5, 6 + f % 5)

theorem cor_ok (f : Int) : (0 ≤ (cor f).1 ∧ (cor f).1 < 12) ∧ (0 ≤ (cor f).2.1 ∧ (cor f).2.1 < 12) ∧ (0 ≤ (cor f).2.2 ∧ (cor f).2.2 < 12) := by
  unfold cor
  split
  · dsimp only; omega
  · split
    · dsimp only; omega
    · split <;> (dsimp only; omega)

def vs (ws : List Int) : List LV := ws.map V
theorem vs_len {ws : List Int} : (vs ws).length = ws.length := by simp [vs]
theorem vs_getD {ws : List Int} {k : Nat} (h : k < ws.length) : (vs ws).getD k .any = V (ws.getD k 0) := by
  rw [List.getD_eq_getElem?_getD, List.getD_eq_getElem?_getD, vs, List.getElem?_map, List.getElem?_eq_getElem h]; rfl
theorem vs_ovr {x : Int} : ∀ {ws : List Int} {k : Nat}, k < ws.length → ovr (vs ws) k [V x] = vs (ws.set k x)
  | [], k, h => by simp at h
  | w :: ws, 0, _ => by simp only [vs, List.map_cons, ovr, List.set_cons_zero]; cases ws <;> rfl
  | w :: ws, k + 1, h => by
    have := vs_ovr (x := x) (ws := ws) (k := k) (by simpa using h)
    simp only [vs, List.map_cons, ovr, List.set_cons_succ] at this ⊢
    rw [this]
theorem vs_frz {S : LS} {n d : Nat} {ws : List Int} : (vs ws).map (frz S n d) = vs ws := by
  simp only [vs, List.map_map]
  exact List.map_congr_left fun x _ => frz_int
theorem vs_lt {n : Nat} {ws : List Int} : ltL n (vs ws) = true := by
  induction ws with
  | nil => rfl
  | cons w ws ih => simp only [vs, List.map_cons, ltL, LV.lt, Bool.true_and] at ih ⊢; exact ih
def wz : List Int := List.replicate 12 0
theorem wz_len : wz.length = 12 := rfl
theorem vs_take {ws : List Int} {n : Nat} (h : ws.length = n) : (vs ws).take n = vs ws := List.take_of_length_le (by rw [vs_len, h]; exact Nat.le_refl _)
theorem ovr_all : ∀ {cs us : List LV}, us.length = cs.length → ovr cs 0 us = us
  | [], us, _ => rfl
  | c :: cs, [], h => by simp at h
  | c :: cs, u :: us, h => by simp only [ovr]; rw [ovr_all (by simpa using h)]
theorem wz_vs : [V 0, V 0, V 0, V 0, V 0, V 0, V 0, V 0, V 0, V 0, V 0, V 0] = vs wz := rfl

/-- the weights of a place. -/
def wts (f a b c : Int) : List Int := ((wz.set (cor f).1.toNat a).set (cor f).2.1.toNat b).set (cor f).2.2.toNat c
theorem wts_len {f a b c : Int} : (wts f a b c).length = 12 := by simp [wts, wz]

set_option maxHeartbeats 400000 in
theorem Corners_ok (f : Int) (h0 : 0 ≤ f) (h1 : f < 20) : Pc 96 [V f] (fun r => r = .tup [.agg [V (cor f).1, V (cor f).2.1, V (cor f).2.2], V 0]) := by
  refine Pc_intro 2 Try.func96 rfl (by kernel_rfl) rfl fun S RR hRR => ?_
  have e1 : decide (f < 0) = false := by simp; omega
  have e2 : decide (20 ≤ f) = false := by simp; omega
  have e3 : f.tmod 5 = f % 5 := Int.tmod_eq_emod_of_nonneg h0
  have e4 : (f % 5 + 1).tmod 5 = (f % 5 + 1) % 5 := Int.tmod_eq_emod_of_nonneg (by omega)
  have e5 : f.tdiv 5 = f / 5 := Int.tdiv_eq_ediv_of_nonneg h0
  have w0 : IntKind.i64.wrap (f / 5) = f / 5 := w64 (by omega) (by omega)
  have w1 : IntKind.i64.wrap (f % 5 + 1) = f % 5 + 1 := w64 (by omega) (by omega)
  have w2 : IntKind.i64.wrap (1 + f % 5) = 1 + f % 5 := w64 (by omega) (by omega)
  have w3 : IntKind.i64.wrap (1 + (f % 5 + 1) % 5) = 1 + (f % 5 + 1) % 5 := w64 (by omega) (by omega)
  have w4 : IntKind.i64.wrap (6 + f % 5) = 6 + f % 5 := w64 (by omega) (by omega)
  have w5 : IntKind.i64.wrap (6 + (f % 5 + 1) % 5) = 6 + (f % 5 + 1) % 5 := w64 (by omega) (by omega)
  refine Lwp_seq fun KK0 hKK0 => ?_
  refine LregionG [none, none] (by kernel_rfl) (by kernel_rfl) ?_
  simp -dsimp only [go_sem, ↓reduceIte, e1, e2, e3, e4, e5, w0, w1, w2, w3, w4, w5]
  repeat with_reducible refine And.intro (by first | omega | decide) ?_
  refine hKK0 _ _ ?_
  try clear hKK0 KK0
  refine Lwp_seq fun KK1 hKK1 => ?_
  refine Lwp_seq fun KK2 hKK2 => ?_
  refine LregionG [none, none, none, some (8, false), some (8, false), none] (by kernel_rfl) (by kernel_rfl) ?_
  simp -dsimp only [go_sem, ↓reduceIte, e1, e2, e3, e4, e5, w0, w1, w2, w3, w4, w5]
  repeat with_reducible refine And.intro (by first | omega | decide) ?_
  refine hKK2 _ _ ?_
  try clear hKK2 KK2
  refine Lwp_cond (by simp only [go_sem, ↓reduceIte, e1, e2, e3, e4, e5, w0, w1, w2, w3, w4, w5]; rfl) (fun ht => ?_) (fun hf => ?_)
  · skip
    cases ht
  · skip
    refine Lwp_skip ?_
    try simp -dsimp only [go_sem, ↓reduceIte, e1, e2, e3, e4, e5, w0, w1, w2, w3, w4, w5]
    refine hKK1 _ _ ?_
    try clear hKK1 KK1
    refine Lwp_seq fun KK3 hKK3 => ?_
    refine LregionG [none, none, none] (by kernel_rfl) (by kernel_rfl) ?_
    simp -dsimp only [go_sem, ↓reduceIte, e1, e2, e3, e4, e5, w0, w1, w2, w3, w4, w5]
    repeat with_reducible refine And.intro (by first | omega | decide) ?_
    refine hKK3 _ _ ?_
    try clear hKK3 KK3
    refine Lwp_seq fun KK4 hKK4 => ?_
    refine LregionG [none, none, none, none] (by kernel_rfl) (by kernel_rfl) ?_
    simp -dsimp only [go_sem, ↓reduceIte, e1, e2, e3, e4, e5, w0, w1, w2, w3, w4, w5]
    repeat with_reducible refine And.intro (by first | omega | decide) ?_
    refine hKK4 _ _ ?_
    try clear hKK4 KK4
    refine Lwp_seq fun KK5 hKK5 => ?_
    refine Lwp_seq fun KK6 hKK6 => ?_
    refine LregionG [none, none] (by kernel_rfl) (by kernel_rfl) ?_
    simp -dsimp only [go_sem, ↓reduceIte, e1, e2, e3, e4, e5, w0, w1, w2, w3, w4, w5]
    repeat with_reducible refine And.intro (by first | omega | decide) ?_
    refine hKK6 _ _ ?_
    try clear hKK6 KK6
    refine Lwp_block ?_
    refine Lwp_seq fun KK7 hKK7 => ?_
    refine LregionG [none, none] (by kernel_rfl) (by kernel_rfl) ?_
    simp -dsimp only [go_sem, ↓reduceIte, e1, e2, e3, e4, e5, w0, w1, w2, w3, w4, w5]
    repeat with_reducible refine And.intro (by first | omega | decide) ?_
    refine hKK7 _ _ ?_
    try clear hKK7 KK7
    refine Lwp_cond (by simp only [go_sem, ↓reduceIte, e1, e2, e3, e4, e5, w0, w1, w2, w3, w4, w5]; rfl) (fun ht => ?_) (fun hf => ?_)
    · skip
      refine Lwp_seq fun KK8 hKK8 => ?_
      refine LregionG [none, none, none, none, none, none, none] (by kernel_rfl) (by kernel_rfl) ?_
      simp -dsimp only [go_sem, ↓reduceIte, e1, e2, e3, e4, e5, w0, w1, w2, w3, w4, w5]
      repeat with_reducible refine And.intro (by first | omega | decide) ?_
      refine hKK8 _ _ ?_
      try clear hKK8 KK8
      refine Lwp_ret ?_
      simp only [LThen, LBlock, LPost, Try.results96]
      simp -dsimp only [go_sem, ↓reduceIte, e1, e2, e3, e4, e5, w0, w1, w2, w3, w4, w5]
      refine ret_app (by simp only [go_sem, ↓reduceIte, LV.lt, ltL, ltLL, vs_frz, vs_lt, Bool.and_self]) ?_
      simp only [go_sem, ↓reduceIte, vs_frz]
      refine hRR _ ?_
      have ht : f / 5 = 0 := by simpa using ht
      simp only [cor, ht, if_true]
    · skip
      have hf0 : ¬ f / 5 = 0 := by simpa using hf
      refine Lwp_seq fun KK9 hKK9 => ?_
      refine LregionG [none, none] (by kernel_rfl) (by kernel_rfl) ?_
      simp -dsimp only [go_sem, ↓reduceIte, e1, e2, e3, e4, e5, w0, w1, w2, w3, w4, w5]
      repeat with_reducible refine And.intro (by first | omega | decide) ?_
      refine hKK9 _ _ ?_
      try clear hKK9 KK9
      refine Lwp_cond (by simp only [go_sem, ↓reduceIte, e1, e2, e3, e4, e5, w0, w1, w2, w3, w4, w5]; rfl) (fun ht => ?_) (fun hf => ?_)
      · skip
        refine Lwp_seq fun KK10 hKK10 => ?_
        refine LregionG [none, none, none, none, none, none, none, none, none] (by kernel_rfl) (by kernel_rfl) ?_
        simp -dsimp only [go_sem, ↓reduceIte, e1, e2, e3, e4, e5, w0, w1, w2, w3, w4, w5]
        repeat with_reducible refine And.intro (by first | omega | decide) ?_
        refine hKK10 _ _ ?_
        try clear hKK10 KK10
        refine Lwp_ret ?_
        simp only [LThen, LBlock, LPost, Try.results96]
        simp -dsimp only [go_sem, ↓reduceIte, e1, e2, e3, e4, e5, w0, w1, w2, w3, w4, w5]
        refine ret_app (by simp only [go_sem, ↓reduceIte, LV.lt, ltL, ltLL, vs_frz, vs_lt, Bool.and_self]) ?_
        simp only [go_sem, ↓reduceIte, vs_frz]
        refine hRR _ ?_
        have ht : f / 5 = 1 := by simpa using ht
        simp [cor, ht]
      · skip
        have hf1 : ¬ f / 5 = 1 := by simpa using hf
        refine Lwp_seq fun KK11 hKK11 => ?_
        refine LregionG [none, none] (by kernel_rfl) (by kernel_rfl) ?_
        simp -dsimp only [go_sem, ↓reduceIte, e1, e2, e3, e4, e5, w0, w1, w2, w3, w4, w5]
        repeat with_reducible refine And.intro (by first | omega | decide) ?_
        refine hKK11 _ _ ?_
        try clear hKK11 KK11
        refine Lwp_cond (by simp only [go_sem, ↓reduceIte, e1, e2, e3, e4, e5, w0, w1, w2, w3, w4, w5]; rfl) (fun ht => ?_) (fun hf => ?_)
        · skip
          refine Lwp_seq fun KK12 hKK12 => ?_
          refine LregionG [none, none, none, none, none, none, none, none, none] (by kernel_rfl) (by kernel_rfl) ?_
          simp -dsimp only [go_sem, ↓reduceIte, e1, e2, e3, e4, e5, w0, w1, w2, w3, w4, w5]
          repeat with_reducible refine And.intro (by first | omega | decide) ?_
          refine hKK12 _ _ ?_
          try clear hKK12 KK12
          refine Lwp_ret ?_
          simp only [LThen, LBlock, LPost, Try.results96]
          simp -dsimp only [go_sem, ↓reduceIte, e1, e2, e3, e4, e5, w0, w1, w2, w3, w4, w5]
          refine ret_app (by simp only [go_sem, ↓reduceIte, LV.lt, ltL, ltLL, vs_frz, vs_lt, Bool.and_self]) ?_
          simp only [go_sem, ↓reduceIte, vs_frz]
          refine hRR _ ?_
          have ht : f / 5 = 2 := by simpa using ht
          simp [cor, ht]
        · skip
          have hf2 : ¬ f / 5 = 2 := by simpa using hf
          refine Lwp_skip ?_
          try simp -dsimp only [go_sem, ↓reduceIte, e1, e2, e3, e4, e5, w0, w1, w2, w3, w4, w5]
          refine hKK5 _ _ ?_
          try clear hKK5 KK5
          refine Lwp_seq fun KK13 hKK13 => ?_
          refine LregionG [none, none, none, none, none, none, none] (by kernel_rfl) (by kernel_rfl) ?_
          simp -dsimp only [go_sem, ↓reduceIte, e1, e2, e3, e4, e5, w0, w1, w2, w3, w4, w5]
          repeat with_reducible refine And.intro (by first | omega | decide) ?_
          refine hKK13 _ _ ?_
          try clear hKK13 KK13
          refine Lwp_ret ?_
          simp only [LThen, LBlock, LPost, Try.results96]
          simp -dsimp only [go_sem, ↓reduceIte, e1, e2, e3, e4, e5, w0, w1, w2, w3, w4, w5]
          refine ret_app (by simp only [go_sem, ↓reduceIte, LV.lt, ltL, ltLL, vs_frz, vs_lt, Bool.and_self]) ?_
          simp only [go_sem, ↓reduceIte, vs_frz]
          refine hRR _ ?_
          simp only [cor, hf0, hf1, hf2, if_false]

set_option maxHeartbeats 400000 in
theorem Weights_ok (f a b c : Int) (h0 : 0 ≤ f) (h1 : f < 20) : Pc 94 [.agg [V f, V a, V b, V c]] (fun r => r = .agg (vs (wts f a b c))) := by
  refine Pc_intro 2 Try.func94 rfl (by kernel_rfl) rfl fun S RR hRR => ?_
  refine Lwp_seq fun KK0 hKK0 => ?_
  refine LregionG [none, none] (by kernel_rfl) (by kernel_rfl) ?_
  simp -dsimp only [go_sem, ↓reduceIte]
  repeat with_reducible refine And.intro (by first | omega | decide) ?_
  refine hKK0 _ _ ?_
  try clear hKK0 KK0
  refine Lwp_seq fun KK1 hKK1 => ?_
  refine LregionG [none] (by kernel_rfl) (by kernel_rfl) ?_
  simp -dsimp only [go_sem, ↓reduceIte]
  repeat with_reducible refine And.intro (by first | omega | decide) ?_
  refine hKK1 _ _ ?_
  try clear hKK1 KK1
  refine Lwp_seq fun KK2 hKK2 => ?_
  refine LregionG [none, none, none, none, none, none, none, none, none] (by kernel_rfl) (by kernel_rfl) ?_
  simp -dsimp only [go_sem, ↓reduceIte]
  refine (Corners_ok f h0 h1).k' ?_
  rintro _ rfl
  simp -dsimp only [go_sem, ↓reduceIte]
  refine hKK2 _ _ ?_
  try clear hKK2 KK2
  refine Lwp_seq fun KK3 hKK3 => ?_
  simp only [wz_vs]
  obtain ⟨⟨c00, c01⟩, ⟨c10, c11⟩, ⟨c20, c21⟩⟩ := cor_ok f
  have o1 : ovr (vs wz) (cor f).1.toNat [V a] = vs (wz.set (cor f).1.toNat a) := vs_ovr (by simp [wz]; omega)
  have o2 : ovr (vs (wz.set (cor f).1.toNat a)) (cor f).2.1.toNat [V b] = vs ((wz.set (cor f).1.toNat a).set (cor f).2.1.toNat b) := vs_ovr (by simp [wz]; omega)
  have o3 : ovr (vs ((wz.set (cor f).1.toNat a).set (cor f).2.1.toNat b)) (cor f).2.2.toNat [V c] = vs (wts f a b c) := vs_ovr (by simp [wz]; omega)
  have o4 : (vs (wts f a b c)).take 12 = vs (wts f a b c) := vs_take wts_len
  have o5 : ovr (vs wz) 0 (vs (wts f a b c)) = vs (wts f a b c) := ovr_all (by rw [vs_len, vs_len, wts_len, wz_len])
  refine LdrawE [0,1,2,3,4,5,6,7,8,9,10,11,12,13,14,15,16,17] [(S.length, (4, [[V f, V a, V b, V c]])), (S.length + 3, (3, [[V (cor f).1, V (cor f).2.1, V (cor f).2.2]]))] none (by kernel_rfl) (by kernel_rfl) (by kernel_rfl) (by kernel_rfl) (by simp [Watch.holds, get_app]) ?_
  simp -dsimp only [go_sem, ↓reduceIte, List.mem_cons, forall_eq_or_imp, Nat.add_eq_left, Nat.left_eq_add, Nat.add_left_cancel_iff, and_assoc, if_false, if_true, Nat.zero_add, Nat.mul_one, Nat.add_zero, Nat.one_ne_zero, o1, o2, o3, vs_len, List.length_set, wz_len]
  refine ⟨by decide, by decide, by decide, c00, by omega, by omega, c10, by omega, by omega, c20, by omega, by omega, ?_⟩
  refine hKK3 _ _ ?_
  try clear hKK3 KK3
  refine Lwp_seq fun KK4 hKK4 => ?_
  refine LregionG [none, none] (by kernel_rfl) (by kernel_rfl) ?_
  simp -dsimp only [go_sem, ↓reduceIte, o4, o5, vs_len, wts_len, wz_len, Nat.le_refl, Nat.zero_add]
  repeat with_reducible refine And.intro (by first | omega | decide) ?_
  refine hKK4 _ _ ?_
  try clear hKK4 KK4
  refine Lwp_ret ?_
  simp only [LThen, LBlock, LPost, Try.results94]
  simp -dsimp only [go_sem, ↓reduceIte, o4, o5, vs_len, wts_len, wz_len, Nat.le_refl, Nat.zero_add]
  refine ret_app (by simp only [go_sem, ↓reduceIte, LV.lt, ltL, ltLL, vs_frz, vs_lt, Bool.and_self]) ?_
  simp only [go_sem, ↓reduceIte, vs_frz]
  refine hRR _ ?_
  rfl


abbrev P4 := Int × Int × Int × Int
def plc (p : P4) : List LV := [V p.1, V p.2.1, V p.2.2.1, V p.2.2.2]
/-- the address of weights on a face. -/
def onQ (w : List Int) (f : Int) : P4 := (f, w.getD (cor f).1.toNat 0, w.getD (cor f).2.1.toNat 0, w.getD (cor f).2.2.toNat 0)
def onB (w : List Int) (f : Int) : Bool := decide ((onQ w f).2.1 + (onQ w f).2.2.1 + (onQ w f).2.2.2 = 840)
def isW (w : List Int) : Prop := w.length = 12 ∧ ∀ x ∈ w, 0 ≤ x ∧ x ≤ 840
theorem getD_of {w : List Int} {Q : Int → Prop} (h : ∀ x ∈ w, Q x) {k : Nat} (hk : k < w.length) : Q (w.getD k 0) := by
  rw [List.getD_eq_getElem?_getD, List.getElem?_eq_getElem hk]; exact h _ (List.getElem_mem hk)

set_option maxHeartbeats 400000 in
theorem On_ok (f : Int) (w : List Int) (h0 : 0 ≤ f) (h1 : f < 20) (hw : isW w) : Pc 95 [V f, .agg (vs w)] (fun r => r = .tup [.agg (plc (onQ w f)), .bool (onB w f)]) := by
  refine Pc_intro 2 Try.func95 rfl (by kernel_rfl) rfl fun S RR hRR => ?_
  refine Lwp_seq fun KK0 hKK0 => ?_
  refine LregionG [none, none, none] (by kernel_rfl) (by kernel_rfl) ?_
  simp -dsimp only [go_sem, ↓reduceIte]
  repeat with_reducible refine And.intro (by first | omega | decide) ?_
  refine hKK0 _ _ ?_
  try clear hKK0 KK0
  refine Lwp_seq fun KK1 hKK1 => ?_
  refine LregionG [none, none, none, none, none, none, none, none] (by kernel_rfl) (by kernel_rfl) ?_
  simp -dsimp only [go_sem, ↓reduceIte]
  refine (Corners_ok f h0 h1).k' ?_
  rintro _ rfl
  obtain ⟨⟨c00, c01⟩, ⟨c10, c11⟩, ⟨c20, c21⟩⟩ := cor_ok f
  obtain ⟨hw1, hw2⟩ := hw
  have g0 := getD_of hw2 (k := (cor f).1.toNat) (by omega)
  have g1 := getD_of hw2 (k := (cor f).2.1.toNat) (by omega)
  have g2 := getD_of hw2 (k := (cor f).2.2.toNat) (by omega)
  have o1 : (vs w).getD (cor f).1.toNat .any = V (w.getD (cor f).1.toNat 0) := vs_getD (by omega)
  have o2 : (vs w).getD (cor f).2.1.toNat .any = V (w.getD (cor f).2.1.toNat 0) := vs_getD (by omega)
  have o3 : (vs w).getD (cor f).2.2.toNat .any = V (w.getD (cor f).2.2.toNat 0) := vs_getD (by omega)
  have q1 : IntKind.i64.wrap (w.getD (cor f).1.toNat 0 + w.getD (cor f).2.1.toNat 0) = w.getD (cor f).1.toNat 0 + w.getD (cor f).2.1.toNat 0 := w64 (by omega) (by omega)
  have q2 : IntKind.i64.wrap (w.getD (cor f).1.toNat 0 + w.getD (cor f).2.1.toNat 0 + w.getD (cor f).2.2.toNat 0) = w.getD (cor f).1.toNat 0 + w.getD (cor f).2.1.toNat 0 + w.getD (cor f).2.2.toNat 0 := w64 (by omega) (by omega)
  simp -dsimp only [go_sem, ↓reduceIte]
  refine hKK1 _ _ ?_
  try clear hKK1 KK1
  refine Lwp_seq fun KK2 hKK2 => ?_
  refine LdrawE [0,1,2,3,4,5,6,7,8,9,10,11,12,13,14,15] [(S.length, (12, [vs w])), (S.length + 2, (3, [[V (cor f).1, V (cor f).2.1, V (cor f).2.2]]))] none (by kernel_rfl) (by kernel_rfl) (by kernel_rfl) (by kernel_rfl) (by simp [Watch.holds, get_app, vs_len, hw1]) ?_
  simp -dsimp only [go_sem, ↓reduceIte, List.mem_cons, forall_eq_or_imp, Nat.add_eq_left, Nat.left_eq_add, Nat.add_left_cancel_iff, and_assoc, if_false, if_true, Nat.zero_add, Nat.mul_one, Nat.add_zero, Nat.one_ne_zero, o1, o2, o3, q1, q2, vs_len, hw1]
  refine ⟨by decide, c00, by omega, by omega, by decide, c10, by omega, by omega, by decide, c20, by omega, by omega, ?_⟩
  refine hKK2 _ _ ?_
  try clear hKK2 KK2
  refine Lwp_seq fun KK3 hKK3 => ?_
  refine LdrawE [0,1,2,3,4,5,6,7,8,9,10,11] [(S.length + 3, (4, [[V f, V (w.getD (cor f).1.toNat 0), V (w.getD (cor f).2.1.toNat 0), V (w.getD (cor f).2.2.toNat 0)]]))] none (by kernel_rfl) (by kernel_rfl) (by kernel_rfl) (by kernel_rfl) (by simp [Watch.holds, get_app]) ?_
  simp -dsimp only [go_sem, ↓reduceIte, List.mem_cons, forall_eq_or_imp, Nat.add_eq_left, Nat.left_eq_add, Nat.add_left_cancel_iff, and_assoc, if_false, if_true, Nat.zero_add, Nat.mul_one, Nat.add_zero, Nat.one_ne_zero, o1, o2, o3, q1, q2, vs_len, hw1]
  repeat with_reducible refine And.intro (by first | omega | decide) ?_
  refine hKK3 _ _ ?_
  try clear hKK3 KK3
  refine Lwp_ret ?_
  simp only [LThen, LBlock, LPost, Try.results95]
  simp -dsimp only [go_sem, ↓reduceIte, List.mem_cons, forall_eq_or_imp, Nat.add_eq_left, Nat.left_eq_add, Nat.add_left_cancel_iff, and_assoc, if_false, if_true, Nat.zero_add, Nat.mul_one, Nat.add_zero, Nat.one_ne_zero, o1, o2, o3, q1, q2, vs_len, hw1]
  refine ret_app (by simp only [go_sem, ↓reduceIte, LV.lt, ltL, ltLL, vs_frz, vs_lt, Bool.and_self]) ?_
  simp only [go_sem, ↓reduceIte, vs_frz]
  refine hRR _ ?_
  rfl


/-- a valid place. -/
def isP (p : P4) : Prop := (0 ≤ p.1 ∧ p.1 < 20) ∧ (0 ≤ p.2.1 ∧ p.2.1 ≤ 840) ∧ (0 ≤ p.2.2.1 ∧ p.2.2.1 ≤ 840) ∧ (0 ≤ p.2.2.2 ∧ p.2.2.2 ≤ 840) ∧ p.2.1 + p.2.2.1 + p.2.2.2 = 840
abbrev wtp (p : P4) : List Int := wts p.1 p.2.1 p.2.2.1 p.2.2.2
theorem set_all {w : List Int} {Q : Int → Prop} (h : ∀ x ∈ w, Q x) {k : Nat} {a : Int} (ha : Q a) : ∀ x ∈ w.set k a, Q x := fun x hx => by
  rcases List.mem_or_eq_of_mem_set hx with h1 | h1
  · exact h x h1
  · rw [h1]; exact ha
theorem wtp_ok {p : P4} (h : isP p) : isW (wtp p) :=
  ⟨wts_len, set_all (set_all (set_all (by simp [wz]) h.2.1) h.2.2.1) h.2.2.2.1⟩
/-- the addresses of weights. -/
def adr (w : List Int) : Nat → List P4
  | 0 => []
  | k + 1 => bif onB w k then adr w k ++ [onQ w k] else adr w k
def nrm (p : P4) : P4 := (adr (wtp p) 20).headD (0, 0, 0, 0)
theorem adr_len {w : List Int} {k : Nat} : (adr w k).length ≤ k := by
  induction k with
  | zero => simp [adr]
  | succ k ih => simp only [adr]; cases onB w k <;> simp <;> omega
theorem cor_ne (f : Int) : (cor f).1 ≠ (cor f).2.1 ∧ (cor f).1 ≠ (cor f).2.2 ∧ (cor f).2.1 ≠ (cor f).2.2 := by
  unfold cor
  split
  · dsimp only; omega
  · split
    · dsimp only; omega
    · split <;> (dsimp only; omega)
theorem onQ_self {p : P4} : onQ (wtp p) p.1 = p := by
  obtain ⟨f, a, b, c⟩ := p
  obtain ⟨n1, n2, n3⟩ := cor_ne f
  obtain ⟨⟨c00, c01⟩, ⟨c10, c11⟩, ⟨c20, c21⟩⟩ := cor_ok f
  have m1 : (cor f).2.2.toNat ≠ (cor f).1.toNat := by omega
  have m2 : (cor f).2.1.toNat ≠ (cor f).1.toNat := by omega
  have m3 : (cor f).2.2.toNat ≠ (cor f).2.1.toNat := by omega
  have hl : wz.length = 12 := rfl
  simp only [onQ, wts, List.getD_eq_getElem?_getD, Prod.mk.injEq, true_and]
  refine ⟨?_, ?_, ?_⟩
  · rw [List.getElem?_set_ne m1, List.getElem?_set_ne m2, List.getElem?_set_self (by omega)]; rfl
  · rw [List.getElem?_set_ne m3, List.getElem?_set_self (by rw [List.length_set]; omega)]; rfl
  · rw [List.getElem?_set_self (by rw [List.length_set, List.length_set]; omega)]; rfl
theorem adr_ne {p : P4} (h : isP p) {k : Nat} (hk : p.1.toNat < k) : adr (wtp p) k ≠ [] := by
  induction k with
  | zero => omega
  | succ k ih =>
    simp only [adr]
    by_cases e : p.1.toNat = k
    · have e1 : (k : Int) = p.1 := by have := h.1.1; omega
      have : onB (wtp p) k = true := by rw [e1, onB, onQ_self]; simp; exact h.2.2.2.2
      rw [this]; simp
    · have := ih (by omega)
      cases onB (wtp p) k
      · simpa using this
      · simp
theorem adr_isP {w : List Int} (hw : isW w) : ∀ {k : Nat}, k ≤ 20 → ∀ q ∈ adr w k, isP q
  | 0, _, q, hq => by simp [adr] at hq
  | k + 1, hk, q, hq => by
    simp only [adr] at hq
    have old := fun h => adr_isP hw (k := k) (by omega) q h
    cases hb : onB w k with
    | false => rw [hb] at hq; exact old hq
    | true =>
      rw [hb] at hq
      simp only [cond_true, List.mem_append, List.mem_singleton] at hq
      rcases hq with hq | rfl
      · exact old hq
      · obtain ⟨⟨c00, c01⟩, ⟨c10, c11⟩, ⟨c20, c21⟩⟩ := cor_ok (k : Int)
        obtain ⟨hw1, hw2⟩ := hw
        refine ⟨⟨by simp [onQ], by simp [onQ]; omega⟩, getD_of hw2 (by omega), getD_of hw2 (by omega), getD_of hw2 (by omega), by simpa [onB] using hb⟩
theorem nrm_isP {p : P4} (h : isP p) : isP (nrm p) := by
  have h1 := adr_ne h (k := 20) (by have := h.1; omega)
  have h2 := adr_isP (wtp_ok h) (k := 20) (Nat.le_refl _)
  unfold nrm
  cases hl : adr (wtp p) 20 with
  | nil => exact absurd hl h1
  | cons q l => exact h2 q (by rw [hl]; simp)

set_option maxRecDepth 10000 in
set_option maxHeartbeats 400000 in
theorem Valid_ok (p : P4) (h : isP p) : Pc 93 [.agg (plc p)] (fun r => r = .bool true) := by
  refine Pc_intro 1 Try.func93 rfl (by kernel_rfl) rfl fun S RR hRR => ?_
  obtain ⟨f, a, b, c⟩ := p
  obtain ⟨⟨h1, h2⟩, ⟨h3, h4⟩, ⟨h5, h6⟩, ⟨h7, h8⟩, h9⟩ := h
  dsimp only at h1 h2 h3 h4 h5 h6 h7 h8 h9
  have q1 : IntKind.i64.wrap (a + b) = a + b := w64 (by omega) (by omega)
  have q2 : IntKind.i64.wrap (a + b + c) = 840 := by rw [h9]; rfl
  have d1 := decide_eq_true h1
  have d2 := decide_eq_true h2
  have d3 := decide_eq_true h3
  have d4 := decide_eq_true h4
  have d5 := decide_eq_true h5
  have d6 := decide_eq_true h6
  have d7 := decide_eq_true h7
  have d8 := decide_eq_true h8
  refine Lwp_seq fun KK0 hKK0 => ?_
  refine LregionG [none, none] (by kernel_rfl) (by kernel_rfl) ?_
  simp -dsimp only [go_sem, ↓reduceIte, plc, q1, q2, d1, d2, d3, d4, d5, d6, d7, d8, decide_true]
  repeat with_reducible refine And.intro (by first | omega | decide) ?_
  refine hKK0 _ _ ?_
  try clear hKK0 KK0
  refine Lwp_seq fun KK1 hKK1 => ?_
  refine LregionG [none, none, none, none, some (6, true), some (6, true), some (6, true), none, none, some (11, true), some (11, true), some (11, true), none, none, some (16, true), some (16, true), some (16, true), none, none, some (21, true), some (21, true), some (21, true), none, none, some (26, true), some (26, true), some (26, true), none, none, some (31, true), some (31, true), some (31, true), none, none, some (36, true), some (36, true), some (36, true), none, none, some (41, true), some (41, true), some (41, true), some (41, true), some (41, true), some (41, true), some (41, true), some (41, true), some (41, true), none, none] (by kernel_rfl) (by kernel_rfl) ?_
  simp -dsimp only [go_sem, ↓reduceIte, plc, q1, q2, d1, d2, d3, d4, d5, d6, d7, d8, decide_true]
  repeat with_reducible refine And.intro (by first | omega | decide) ?_
  refine hKK1 _ _ ?_
  try clear hKK1 KK1
  refine Lwp_ret ?_
  simp only [LThen, LBlock, LPost, Try.results93]
  simp -dsimp only [go_sem, ↓reduceIte, plc, q1, q2, d1, d2, d3, d4, d5, d6, d7, d8, decide_true]
  refine ret_app (by simp only [go_sem, ↓reduceIte, LV.lt, ltL, ltLL, vs_frz, vs_lt, Bool.and_self]) ?_
  simp only [go_sem, ↓reduceIte, vs_frz]
  refine hRR _ ?_
  rfl

end Go.Proofs.Ytdhngmldmalbbaa
end
section
set_option linter.all false
namespace Go.Proofs.Ytdhngmldmalbbaa
open Go.Lift Go.RowKit Go.Store
set_option linter.unusedSimpArgs false
set_option linter.unusedVariables false

theorem lt_plc {n : Nat} {l : List P4} : ltLL n (l.map plc) = true := by
  induction l with
  | nil => rfl
  | cons x l ih => simp only [List.map_cons, ltLL, plc, ltL, LV.lt, Bool.and_self, Bool.true_and] at ih ⊢; exact ih

set_option maxHeartbeats 400000 in
theorem Addresses_ok (p : P4) (h : isP p) : Pc 91 [.agg (plc p)] (fun r => ∃ full, r = .tup [.sl full ((adr (wtp p) 20).map plc), V 0]) := by
  refine Pc_intro 2 Try.func91 rfl (by kernel_rfl) rfl fun S RR hRR => ?_
  have hW := wtp_ok h
  have o4 : (vs (wtp p)).take 12 = vs (wtp p) := vs_take wts_len
  have o5 : ovr (vs wz) 0 (vs (wtp p)) = vs (wtp p) := ovr_all (by rw [vs_len, vs_len, wts_len, wz_len])
  refine Lwp_seq fun KK0 hKK0 => ?_
  refine LregionG [none, none, none] (by kernel_rfl) (by kernel_rfl) ?_
  simp -dsimp only [go_sem, ↓reduceIte, plc]
  repeat with_reducible refine And.intro (by first | omega | decide) ?_
  refine hKK0 _ _ ?_
  try clear hKK0 KK0
  refine Lwp_seq fun KK1 hKK1 => ?_
  refine Lwp_seq fun KK2 hKK2 => ?_
  refine LregionG [none, none, none] (by kernel_rfl) (by kernel_rfl) ?_
  simp -dsimp only [go_sem, ↓reduceIte, plc]
  refine (Valid_ok p h).k' ?_
  rintro _ rfl
  simp -dsimp only [go_sem, ↓reduceIte, plc]
  refine hKK2 _ _ ?_
  try clear hKK2 KK2
  refine Lwp_cond (by simp only [go_sem, ↓reduceIte, plc]; rfl) (fun ht => ?_) (fun hf => ?_)
  · skip
    cases ht
  · skip
    refine Lwp_skip ?_
    try simp -dsimp only [go_sem, ↓reduceIte, plc]
    refine hKK1 _ _ ?_
    try clear hKK1 KK1
    refine Lwp_seq fun KK3 hKK3 => ?_
    refine LregionG [none, none, none, none] (by kernel_rfl) (by kernel_rfl) ?_
    simp -dsimp only [go_sem, ↓reduceIte, plc, o4, o5, vs_len, wts_len, wz_len, wz_vs, Nat.le_refl, Nat.zero_add]
    refine (Weights_ok p.1 p.2.1 p.2.2.1 p.2.2.2 h.1.1 h.1.2).k' ?_
    rintro _ rfl
    simp -dsimp only [go_sem, ↓reduceIte, plc, o4, o5, vs_len, wts_len, wz_len, wz_vs, Nat.le_refl, Nat.zero_add]
    refine hKK3 _ _ ?_
    try clear hKK3 KK3
    refine Lwp_seq fun KK4 hKK4 => ?_
    refine LregionG [none] (by kernel_rfl) (by kernel_rfl) ?_
    simp -dsimp only [go_sem, ↓reduceIte, plc, o4, o5, vs_len, wts_len, wz_len, wz_vs, Nat.le_refl, Nat.zero_add]
    repeat with_reducible refine And.intro (by first | omega | decide) ?_
    refine hKK4 _ _ ?_
    try clear hKK4 KK4
    refine Lwp_seq fun KK5 hKK5 => ?_
    refine Lwp_seq fun KK6 hKK6 => ?_
    refine LregionG [none] (by kernel_rfl) (by kernel_rfl) ?_
    simp -dsimp only [go_sem, ↓reduceIte, plc, o4, o5, vs_len, wts_len, wz_len, wz_vs, Nat.le_refl, Nat.zero_add]
    repeat with_reducible refine And.intro (by first | omega | decide) ?_
    refine hKK6 _ _ ?_
    try clear hKK6 KK6
    refine Lwp_block ?_
    refine Lwp_loopK [4, 5, 6] (fun m us S' => ∃ (T : LS) (u : LV) (k : Nat), S' = S ++ T ∧ us = [.ptr (S.length + 1) 0 0, u, V k] ∧ 2 ≤ T.length ∧ T[1]? = some (some (12, [vs (wtp p)])) ∧ RowT S.length T 2 u 4 ((adr (wtp p) k).map plc) ∧ k ≤ 20 ∧ m = 20 - k) 20 rfl (⟨_, _, 0, rfl, by simp only [go_sem, ↓reduceIte, Int.natCast_zero], by simp, rfl, RowT.nil, by omega, by omega⟩) ?_
    rintro m us S2 ⟨T, u, k, rfl, rfl, hT, hT1, hrow, hk, hm⟩ II hII
    refine Lwp_seq fun KK7 hKK7 => ?_
    refine Lwp_seq fun KK8 hKK8 => ?_
    refine LregionG [none, none] (by kernel_rfl) (by kernel_rfl) ?_
    simp -dsimp only [go_sem, ↓reduceIte, plc, o4, o5, vs_len, wts_len, wz_len, wz_vs, Nat.le_refl, Nat.zero_add, hT1]
    repeat with_reducible refine And.intro (by first | omega | decide) ?_
    refine hKK8 _ _ ?_
    try clear hKK8 KK8
    refine Lwp_cond (by simp only [go_sem, ↓reduceIte, plc, o4, o5, vs_len, wts_len, wz_len, wz_vs, Nat.le_refl, Nat.zero_add, hT1]; rfl) (fun ht => ?_) (fun hf => ?_)
    · skip
      refine Lwp_skip ?_
      try simp -dsimp only [go_sem, ↓reduceIte, plc, o4, o5, vs_len, wts_len, wz_len, wz_vs, Nat.le_refl, Nat.zero_add, hT1]
      refine hKK7 _ _ ?_
      try clear hKK7 KK7
      refine Lwp_seq fun KK9 hKK9 => ?_
      refine Lwp_block ?_
      refine Lwp_seq fun KK10 hKK10 => ?_
      refine LregionG [none, none, none, none, none, none, none, none, none] (by kernel_rfl) (by kernel_rfl) ?_
      simp -dsimp only [go_sem, ↓reduceIte, plc, o4, o5, vs_len, wts_len, wz_len, wz_vs, Nat.le_refl, Nat.zero_add, hT1]
      have hk20 : k < 20 := by simp at ht; omega
      have hk1 : IntKind.i64.wrap ((k : Int) + 1) = ((k + 1 : Nat) : Int) := w64 (by omega) (by omega)
      refine (On_ok (k : Int) (wtp p) (by omega) (by omega) hW).k' ?_
      rintro _ rfl
      simp -dsimp only [go_sem, ↓reduceIte, plc, o4, o5, vs_len, wts_len, wz_len, wz_vs, Nat.le_refl, Nat.zero_add, hT1]
      refine hKK10 _ _ ?_
      try clear hKK10 KK10
      refine Lwp_seq fun KK11 hKK11 => ?_
      refine LregionG [none] (by kernel_rfl) (by kernel_rfl) ?_
      simp -dsimp only [go_sem, ↓reduceIte, plc, o4, o5, vs_len, wts_len, wz_len, wz_vs, Nat.le_refl, Nat.zero_add, hT1]
      repeat with_reducible refine And.intro (by first | omega | decide) ?_
      refine hKK11 _ _ ?_
      try clear hKK11 KK11
      refine Lwp_cond (by simp only [go_sem, ↓reduceIte, plc, o4, o5, vs_len, wts_len, wz_len, wz_vs, Nat.le_refl, Nat.zero_add, hT1]; rfl) (fun ht => ?_) (fun hf => ?_)
      · skip
        have hon : onB (wtp p) k = true := ht
        have hrow2 := hrow.mono (T' := T ++ [some (4, [plc (onQ (wtp p) k)])]) (Nat.le_refl _) (fun i _ hl => List.getElem?_append_left hl)
        simp only [plc] at hrow2
        refine LregionG [none, none, none, none, none] (by kernel_rfl) (by kernel_rfl) ?_
        simp -dsimp only [go_sem, ↓reduceIte, plc, o4, o5, vs_len, wts_len, wz_len, wz_vs, Nat.le_refl, Nat.zero_add, hT1]
        refine append_own (by simp) hrow2 rfl (by simp only [go_sem]; rfl) (by simp only [go_sem]; first | exact ⟨rfl, rfl⟩ | exact ⟨rfl, rfl, rfl⟩ | rfl) (by simp only [go_sem]) (by simp only [go_sem, ↓reduceIte]) (by simp only [go_sem, ↓reduceIte]; rfl) (by simp) (.inr (by simp)) (by simp only [LIM, List.length_cons, List.length_nil]; have := adr_len (w := wtp p) (k := k); simp; omega) (by simp; omega) fun T' hT' hrow' hpre' => ?_
        clear hrow2
        simp -dsimp only [go_sem, ↓reduceIte, plc, o4, o5, vs_len, wts_len, wz_len, wz_vs, Nat.le_refl, Nat.zero_add, hT1]
        refine hKK9 _ _ ?_
        try clear hKK9 KK9
        refine LregionG [none, none, none] (by kernel_rfl) (by kernel_rfl) ?_
        simp -dsimp only [go_sem, ↓reduceIte, plc, o4, o5, vs_len, wts_len, wz_len, wz_vs, Nat.le_refl, Nat.zero_add, hT1, hk1]
        repeat with_reducible refine And.intro (by first | omega | decide) ?_
        refine hII (m - 1) _ _ (by omega) ⟨_, _, k + 1, rfl, rfl, by first | omega | (simp at hT'; omega) | (simp; omega), ?_, ?_, by omega, by omega⟩
        · first | exact (List.getElem?_append_left (by omega)).trans hT1 | exact (hpre' 1 (by omega)).trans ((List.getElem?_append_left (by omega)).trans hT1)
        · simp only [adr, hon, cond_true, cond_false, List.map_append, List.map_cons, List.map_nil]
          first | (have hz := hrow'; simp only [List.length_map, List.length_append, List.length_cons, List.length_nil] at hz; exact hz) | exact hrow.mono (Nat.le_refl _) (fun i _ hl => List.getElem?_append_left hl)
      · skip
        have hon : onB (wtp p) k = false := hf
        refine Lwp_skip ?_
        try simp -dsimp only [go_sem, ↓reduceIte, plc, o4, o5, vs_len, wts_len, wz_len, wz_vs, Nat.le_refl, Nat.zero_add, hT1]
        refine hKK9 _ _ ?_
        try clear hKK9 KK9
        refine LregionG [none, none, none] (by kernel_rfl) (by kernel_rfl) ?_
        simp -dsimp only [go_sem, ↓reduceIte, plc, o4, o5, vs_len, wts_len, wz_len, wz_vs, Nat.le_refl, Nat.zero_add, hT1, hk1]
        repeat with_reducible refine And.intro (by first | omega | decide) ?_
        refine hII (m - 1) _ _ (by omega) ⟨_, _, k + 1, rfl, rfl, by first | omega | (simp at hT'; omega) | (simp; omega), ?_, ?_, by omega, by omega⟩
        · first | exact (List.getElem?_append_left (by omega)).trans hT1 | exact (hpre' 1 (by omega)).trans ((List.getElem?_append_left (by omega)).trans hT1)
        · simp only [adr, hon, cond_true, cond_false, List.map_append, List.map_cons, List.map_nil]
          first | (have hz := hrow'; simp only [List.length_map, List.length_append, List.length_cons, List.length_nil] at hz; exact hz) | exact hrow.mono (Nat.le_refl _) (fun i _ hl => List.getElem?_append_left hl)
    · skip
      obtain rfl : k = 20 := by simp at hf; omega
      refine Lwp_exit ?_
      simp -dsimp only [go_sem, ↓reduceIte, plc, o4, o5, vs_len, wts_len, wz_len, wz_vs, Nat.le_refl, Nat.zero_add, hT1]
      refine hKK5 _ _ ?_
      try clear hKK5 KK5
      refine Lwp_seq fun KK12 hKK12 => ?_
      refine LregionG [none, none, none] (by kernel_rfl) (by kernel_rfl) ?_
      simp -dsimp only [go_sem, ↓reduceIte, plc, o4, o5, vs_len, wts_len, wz_len, wz_vs, Nat.le_refl, Nat.zero_add, hT1]
      repeat with_reducible refine And.intro (by first | omega | decide) ?_
      refine hKK12 _ _ ?_
      try clear hKK12 KK12
      refine Lwp_ret ?_
      simp only [LThen, LBlock, LPost, Try.results91]
      simp -dsimp only [go_sem, ↓reduceIte, plc, o4, o5, vs_len, wts_len, wz_len, wz_vs, Nat.le_refl, Nat.zero_add, hT1]
      obtain ⟨full, hz⟩ := hrow.frz1 (A := S) rfl
      refine ret_app (by simp only [go_sem, ↓reduceIte, hz, LV.lt, ltL, lt_plc, Bool.and_self]) ?_
      simp only [go_sem, ↓reduceIte, hz]
      exact hRR _ ⟨full, rfl⟩


theorem plc_getD {l : List P4} {k : Nat} (h : k < l.length) : (l.map plc).getD k [] = plc (l.getD k (0, 0, 0, 0)) := by
  rw [List.getD_eq_getElem?_getD, List.getD_eq_getElem?_getD, List.getElem?_map, List.getElem?_eq_getElem h]; rfl
theorem plc_len {p : P4} : (plc p).length = 4 := rfl
theorem plc_take {p : P4} : (plc p).take 4 = plc p := rfl
theorem plc_head {l : List P4} : ∀ e ∈ (l.map plc).head?, e.length = 4 := by
  cases l with
  | nil => simp
  | cons x l => simp [plc]
theorem hd_getD {l : List P4} {d : P4} : l.getD 0 d = l.headD d := by cases l <;> rfl

set_option maxHeartbeats 400000 in
theorem Normal_ok (p : P4) (h : isP p) : Pc 89 [.agg (plc p)] (fun r => r = .tup [.agg (plc (nrm p)), V 0]) := by
  refine Pc_intro 2 Try.func89 rfl (by kernel_rfl) rfl fun S RR hRR => ?_
  have hne := adr_ne h (k := 20) (by have := h.1; omega)
  have hlt : 0 < (adr (wtp p) 20).length := List.length_pos_iff.2 hne
  have hg := plc_getD hlt
  rw [hd_getD] at hg
  change _ = plc (nrm p) at hg
  refine Lwp_seq fun KK0 hKK0 => ?_
  refine LregionG [none, none, none] (by kernel_rfl) (by kernel_rfl) ?_
  simp -dsimp only [go_sem, ↓reduceIte, plc]
  repeat with_reducible refine And.intro (by first | omega | decide) ?_
  refine hKK0 _ _ ?_
  try clear hKK0 KK0
  refine Lwp_seq fun KK1 hKK1 => ?_
  refine LregionG [none, none, none, none, none, none, none] (by kernel_rfl) (by kernel_rfl) ?_
  simp -dsimp only [go_sem, ↓reduceIte, plc]
  refine (Addresses_ok p h).k' ?_
  rintro _ ⟨full, rfl⟩
  simp -dsimp only [go_sem, ↓reduceIte, plc]
  refine hKK1 _ _ ?_
  try clear hKK1 KK1
  refine Lwp_seq fun KK2 hKK2 => ?_
  refine Lwp_seq fun KK3 hKK3 => ?_
  refine LregionG [none, none] (by kernel_rfl) (by kernel_rfl) ?_
  simp -dsimp only [go_sem, ↓reduceIte, plc]
  repeat with_reducible refine And.intro (by first | omega | decide) ?_
  refine hKK3 _ _ ?_
  try clear hKK3 KK3
  refine Lwp_cond (by simp only [go_sem, ↓reduceIte, plc]; rfl) (fun ht => ?_) (fun hf => ?_)
  · skip
    cases ht
  · skip
    refine Lwp_skip ?_
    try simp -dsimp only [go_sem, ↓reduceIte, plc]
    refine hKK2 _ _ ?_
    try clear hKK2 KK2
    refine Lwp_seq fun KK4 hKK4 => ?_
    refine LregionG [none, none, none, none, none] (by kernel_rfl) (by kernel_rfl) ?_
    simp -dsimp only [go_sem, ↓reduceIte, plc, List.length_map, hg]
    repeat with_reducible refine And.intro (by first | omega | decide) ?_
    refine hKK4 _ _ ?_
    try clear hKK4 KK4
    refine Lwp_ret ?_
    simp only [LThen, LBlock, LPost, Try.results89]
    simp -dsimp only [go_sem, ↓reduceIte, plc, List.length_map, hg]
    refine ret_app (by simp only [go_sem, ↓reduceIte, LV.lt, ltL, ltLL, vs_frz, vs_lt, Bool.and_self]) ?_
    simp only [go_sem, ↓reduceIte, vs_frz]
    refine hRR _ ?_
    rfl

set_option maxHeartbeats 400000 in
theorem Less_ok (p q : P4) : Pc 92 [.agg (plc p), .agg (plc q)] (fun r => r = .bool (if p.1 ≠ q.1 then decide (p.1 < q.1) else if p.2.1 ≠ q.2.1 then decide (p.2.1 < q.2.1) else decide (p.2.2.1 < q.2.2.1))) := by
  refine Pc_intro 1 Try.func92 rfl (by kernel_rfl) rfl fun S RR hRR => ?_
  refine Lwp_seq fun KK0 hKK0 => ?_
  refine LregionG [none, none, none] (by kernel_rfl) (by kernel_rfl) ?_
  simp -dsimp only [go_sem, ↓reduceIte, plc]
  repeat with_reducible refine And.intro (by first | omega | decide) ?_
  refine hKK0 _ _ ?_
  try clear hKK0 KK0
  refine Lwp_seq fun KK1 hKK1 => ?_
  refine Lwp_seq fun KK2 hKK2 => ?_
  refine LregionG [none, none, none, none, none] (by kernel_rfl) (by kernel_rfl) ?_
  simp -dsimp only [go_sem, ↓reduceIte, plc]
  repeat with_reducible refine And.intro (by first | omega | decide) ?_
  refine hKK2 _ _ ?_
  try clear hKK2 KK2
  refine Lwp_cond (by simp only [go_sem, ↓reduceIte, plc]; rfl) (fun ht => ?_) (fun hf => ?_)
  · skip
    refine Lwp_seq fun KK3 hKK3 => ?_
    refine LregionG [none, none, none, none, none, none] (by kernel_rfl) (by kernel_rfl) ?_
    simp -dsimp only [go_sem, ↓reduceIte, plc]
    repeat with_reducible refine And.intro (by first | omega | decide) ?_
    refine hKK3 _ _ ?_
    try clear hKK3 KK3
    refine Lwp_ret ?_
    simp only [LThen, LBlock, LPost, Try.results92]
    simp -dsimp only [go_sem, ↓reduceIte, plc]
    refine ret_app (by simp only [go_sem, ↓reduceIte, LV.lt, ltL, ltLL, vs_frz, vs_lt, Bool.and_self]) ?_
    simp only [go_sem, ↓reduceIte, vs_frz]
    refine hRR _ ?_
    have ht : p.1 ≠ q.1 := by simpa using ht
    simp only [ht, ne_eq, not_false_eq_true, if_true]
  · skip
    have hf1 : p.1 = q.1 := by simpa using hf
    refine Lwp_skip ?_
    try simp -dsimp only [go_sem, ↓reduceIte, plc]
    refine hKK1 _ _ ?_
    try clear hKK1 KK1
    refine Lwp_seq fun KK4 hKK4 => ?_
    refine Lwp_seq fun KK5 hKK5 => ?_
    refine LregionG [none, none, none, none, none] (by kernel_rfl) (by kernel_rfl) ?_
    simp -dsimp only [go_sem, ↓reduceIte, plc]
    repeat with_reducible refine And.intro (by first | omega | decide) ?_
    refine hKK5 _ _ ?_
    try clear hKK5 KK5
    refine Lwp_cond (by simp only [go_sem, ↓reduceIte, plc]; rfl) (fun ht => ?_) (fun hf => ?_)
    · skip
      refine Lwp_seq fun KK6 hKK6 => ?_
      refine LregionG [none, none, none, none, none, none] (by kernel_rfl) (by kernel_rfl) ?_
      simp -dsimp only [go_sem, ↓reduceIte, plc]
      repeat with_reducible refine And.intro (by first | omega | decide) ?_
      refine hKK6 _ _ ?_
      try clear hKK6 KK6
      refine Lwp_ret ?_
      simp only [LThen, LBlock, LPost, Try.results92]
      simp -dsimp only [go_sem, ↓reduceIte, plc]
      refine ret_app (by simp only [go_sem, ↓reduceIte, LV.lt, ltL, ltLL, vs_frz, vs_lt, Bool.and_self]) ?_
      simp only [go_sem, ↓reduceIte, vs_frz]
      refine hRR _ ?_
      have ht : p.2.1 ≠ q.2.1 := by simpa using ht
      simp only [hf1, ht, ne_eq, not_true_eq_false, not_false_eq_true, if_true, if_false]
    · skip
      refine Lwp_skip ?_
      try simp -dsimp only [go_sem, ↓reduceIte, plc]
      refine hKK4 _ _ ?_
      try clear hKK4 KK4
      refine Lwp_seq fun KK7 hKK7 => ?_
      refine LregionG [none, none, none, none, none, none] (by kernel_rfl) (by kernel_rfl) ?_
      simp -dsimp only [go_sem, ↓reduceIte, plc]
      repeat with_reducible refine And.intro (by first | omega | decide) ?_
      refine hKK7 _ _ ?_
      try clear hKK7 KK7
      refine Lwp_ret ?_
      simp only [LThen, LBlock, LPost, Try.results92]
      simp -dsimp only [go_sem, ↓reduceIte, plc]
      refine ret_app (by simp only [go_sem, ↓reduceIte, LV.lt, ltL, ltLL, vs_frz, vs_lt, Bool.and_self]) ?_
      simp only [go_sem, ↓reduceIte, vs_frz]
      refine hRR _ ?_
      have hf2 : p.2.1 = q.2.1 := by simpa using hf
      simp only [hf1, hf2, ne_eq, not_true_eq_false, if_false]

set_option maxHeartbeats 400000 in
theorem IsNormal_ok (p : P4) (h : isP p) : Pc 88 [.agg (plc p)] (fun r => r = .bool (decide (p = nrm p))) := by
  refine Pc_intro 1 Try.func88 rfl (by kernel_rfl) rfl fun S RR hRR => ?_
  refine Lwp_seq fun KK0 hKK0 => ?_
  refine LregionG [none, none] (by kernel_rfl) (by kernel_rfl) ?_
  simp -dsimp only [go_sem, ↓reduceIte, plc]
  repeat with_reducible refine And.intro (by first | omega | decide) ?_
  refine hKK0 _ _ ?_
  try clear hKK0 KK0
  refine Lwp_seq fun KK1 hKK1 => ?_
  refine LregionG [none, none, none, none, none, none, none, none] (by kernel_rfl) (by kernel_rfl) ?_
  simp -dsimp only [go_sem, ↓reduceIte, plc]
  refine (Normal_ok p h).k' ?_
  rintro _ rfl
  simp -dsimp only [go_sem, ↓reduceIte, plc]
  refine hKK1 _ _ ?_
  try clear hKK1 KK1
  refine Lwp_seq fun KK2 hKK2 => ?_
  refine LregionG [none, none, none, some (12, true), some (12, true), some (12, true), none, none] (by kernel_rfl) (by kernel_rfl) ?_
  simp -dsimp only [go_sem, ↓reduceIte, plc]
  repeat with_reducible refine And.intro (by first | omega | decide) ?_
  refine hKK2 _ _ ?_
  try clear hKK2 KK2
  refine Lwp_ret ?_
  simp only [LThen, LBlock, LPost, Try.results88]
  simp -dsimp only [go_sem, ↓reduceIte, plc]
  refine ret_app (by simp only [go_sem, ↓reduceIte, LV.lt, ltL, ltLL, vs_frz, vs_lt, Bool.and_self]) ?_
  simp only [go_sem, ↓reduceIte, vs_frz]
  refine hRR _ ?_
  obtain ⟨a, b, c, d⟩ := p
  obtain ⟨a', b', c', d'⟩ := nrm (a, b, c, d)
  congr 1
  simp only [Prod.mk.injEq, Bool.decide_and]

set_option maxHeartbeats 400000 in
theorem Cell_ok (a b c : Int) (ha : -1 ≤ a ∧ a < 1000000) (hb : -1 ≤ b ∧ b < 1000000) (hc : -1 ≤ c ∧ c < 1000000) : Pc 86 [V a, V b, V c] (fun r => r = .agg [V (min (min a b) c), V (a + b + c - min (min a b) c - max (max a b) c), V (max (max a b) c)]) := by
  refine Pc_intro 1 Try.func86 rfl (by kernel_rfl) rfl fun S RR hRR => ?_
  have m1 : (if c < (if b < a then b else a) then c else (if b < a then b else a)) = min (min a b) c := by omega
  have m2 : (if c > (if b > a then b else a) then c else (if b > a then b else a)) = max (max a b) c := by omega
  have w1 : IntKind.i64.wrap (a + b) = a + b := w64 (by omega) (by omega)
  have w2 : IntKind.i64.wrap (a + b + c) = a + b + c := w64 (by omega) (by omega)
  have w3 : IntKind.i64.wrap (a + b + c - min (min a b) c) = a + b + c - min (min a b) c := w64 (by omega) (by omega)
  have w4 : IntKind.i64.wrap (a + b + c - min (min a b) c - max (max a b) c) = a + b + c - min (min a b) c - max (max a b) c := w64 (by omega) (by omega)
  refine Lwp_seq fun KK0 hKK0 => ?_
  refine LregionG [none] (by kernel_rfl) (by kernel_rfl) ?_
  simp -dsimp only [go_sem, ↓reduceIte, m1, m2, w1, w2, w3, w4]
  repeat with_reducible refine And.intro (by first | omega | decide) ?_
  refine hKK0 _ _ ?_
  try clear hKK0 KK0
  refine Lwp_seq fun KK1 hKK1 => ?_
  refine LregionG [none, none, none, none, none, none, none, none, none, none, none, none, none, none, none, none, none, none, none, none, none, none, none, none, none] (by kernel_rfl) (by kernel_rfl) ?_
  simp -dsimp only [go_sem, ↓reduceIte, m1, m2, w1, w2, w3, w4]
  repeat with_reducible refine And.intro (by first | omega | decide) ?_
  refine hKK1 _ _ ?_
  try clear hKK1 KK1
  refine Lwp_ret ?_
  simp only [LThen, LBlock, LPost, Try.results86]
  simp -dsimp only [go_sem, ↓reduceIte, m1, m2, w1, w2, w3, w4]
  refine ret_app (by simp only [go_sem, ↓reduceIte, LV.lt, ltL, ltLL, vs_frz, vs_lt, Bool.and_self]) ?_
  simp only [go_sem, ↓reduceIte, vs_frz]
  refine hRR _ ?_
  rfl

set_option maxHeartbeats 400000 in
theorem Count_ok (n : Int) (h1 : 1 ≤ n) (h8 : n ≤ 8) : Pc 79 [V n] (fun r => r = V (10 * n * n + 2)) := by
  refine Pc_intro 1 Try.func79 rfl (by kernel_rfl) rfl fun S RR hRR => ?_
  have d1 : decide (n < 1) = false := by simp; omega
  have d2 : decide (8 < n) = false := by simp; omega
  have hnn : n * n ≤ 64 := Int.mul_le_mul h8 h8 (by omega) (by omega)
  have hn0 : 0 ≤ n * n := Int.mul_nonneg (by omega) (by omega)
  have e1 : 10 * n * n = 10 * (n * n) := by rw [Int.mul_assoc]
  have w1 : IntKind.i64.wrap (10 * n) = 10 * n := w64 (by omega) (by omega)
  have w2 : IntKind.i64.wrap (10 * n * n) = 10 * n * n := w64 (by omega) (by omega)
  have w3 : IntKind.i64.wrap (10 * n * n + 2) = 10 * n * n + 2 := w64 (by omega) (by omega)
  refine Lwp_seq fun KK0 hKK0 => ?_
  refine LregionG [none] (by kernel_rfl) (by kernel_rfl) ?_
  simp -dsimp only [go_sem, ↓reduceIte, d1, d2, w1, w2, w3]
  repeat with_reducible refine And.intro (by first | omega | decide) ?_
  refine hKK0 _ _ ?_
  try clear hKK0 KK0
  refine Lwp_seq fun KK1 hKK1 => ?_
  refine Lwp_seq fun KK2 hKK2 => ?_
  refine LregionG [none, none, none, some (5, false), some (5, false), none] (by kernel_rfl) (by kernel_rfl) ?_
  simp -dsimp only [go_sem, ↓reduceIte, d1, d2, w1, w2, w3]
  repeat with_reducible refine And.intro (by first | omega | decide) ?_
  refine hKK2 _ _ ?_
  try clear hKK2 KK2
  refine Lwp_cond (by simp only [go_sem, ↓reduceIte, d1, d2, w1, w2, w3]; rfl) (fun ht => ?_) (fun hf => ?_)
  · skip
    cases ht
  · skip
    refine Lwp_skip ?_
    try simp -dsimp only [go_sem, ↓reduceIte, d1, d2, w1, w2, w3]
    refine hKK1 _ _ ?_
    try clear hKK1 KK1
    refine Lwp_seq fun KK3 hKK3 => ?_
    refine LregionG [none, none, none, none, none, none] (by kernel_rfl) (by kernel_rfl) ?_
    simp -dsimp only [go_sem, ↓reduceIte, d1, d2, w1, w2, w3]
    repeat with_reducible refine And.intro (by first | omega | decide) ?_
    refine hKK3 _ _ ?_
    try clear hKK3 KK3
    refine Lwp_ret ?_
    simp only [LThen, LBlock, LPost, Try.results79]
    simp -dsimp only [go_sem, ↓reduceIte, d1, d2, w1, w2, w3]
    refine ret_self (by simp only [go_sem, ↓reduceIte, LV.lt, ltL, ltLL]) ?_
    try simp only [go_sem, ↓reduceIte]
    refine hRR _ ?_
    rfl


def lsP (p q : P4) : Bool := if p.1 ≠ q.1 then decide (p.1 < q.1) else if p.2.1 ≠ q.2.1 then decide (p.2.1 < q.2.1) else decide (p.2.2.1 < q.2.2.1)
abbrev P40 : P4 := (0, 0, 0, 0)
def fnd (l : List P4) (p : P4) : Nat → Nat → Nat → Nat
  | 0, lo, _ => lo
  | n + 1, lo, hi => if lo < hi then bif lsP (l.getD ((lo + hi) / 2) P40) p then fnd l p n ((lo + hi) / 2 + 1) hi else fnd l p n lo ((lo + hi) / 2) else lo
def find (l : List P4) (p : P4) : Int := if fnd l p l.length 0 l.length < l.length ∧ l.getD (fnd l p l.length 0 l.length) P40 = p then fnd l p l.length 0 l.length else -1
theorem fnd_done {l : List P4} {p : P4} {n lo hi : Nat} (h : ¬ lo < hi) : fnd l p n lo hi = lo := by cases n <;> simp [fnd, h]
theorem find_le {l : List P4} {p : P4} : -1 ≤ find l p ∧ find l p < max 1 l.length := by
  unfold find
  split <;> omega
theorem plc_inj {p q : P4} : (decide (p.1 = q.1) && (decide (p.2.1 = q.2.1) && (decide (p.2.2.1 = q.2.2.1) && decide (p.2.2.2 = q.2.2.2)))) = decide (p = q) := by
  obtain ⟨a, b, c, d⟩ := p
  obtain ⟨a', b', c', d'⟩ := q
  simp only [Prod.mk.injEq, Bool.decide_and]

set_option maxHeartbeats 400000 in
theorem Find_ok (full : Bool) (l : List P4) (p : P4) (hl : l.length ≤ 1000000) : Pc 90 [.sl full (l.map plc), .agg (plc p)] (fun r => r = V (find l p)) := by
  refine Pc_intro 1 Try.func90 rfl (by kernel_rfl) rfl fun S RR hRR => ?_
  refine Lwp_seq fun KK0 hKK0 => ?_
  refine LregionG [none, none] (by kernel_rfl) (by kernel_rfl) ?_
  simp -dsimp only [go_sem, ↓reduceIte, plc_len, plc_take]
  repeat with_reducible refine And.intro (by first | omega | decide) ?_
  refine hKK0 _ _ ?_
  try clear hKK0 KK0
  refine Lwp_seq fun KK1 hKK1 => ?_
  refine LregionG [none, none, none, none] (by kernel_rfl) (by kernel_rfl) ?_
  simp -dsimp only [go_sem, ↓reduceIte, plc_len, plc_take]
  repeat with_reducible refine And.intro (by first | omega | decide) ?_
  refine hKK1 _ _ ?_
  try clear hKK1 KK1
  refine Lwp_seq fun KK2 hKK2 => ?_
  refine Lwp_block ?_
  refine Lwp_loopK [0, 3, 5, 6] (fun m us S' => ∃ (lo hi n : Nat), S' = S ++ [some (4, [plc p])] ∧ us = [.sl full (l.map plc), .ptr S.length 0 0, V lo, V hi] ∧ hi ≤ l.length ∧ hi - lo ≤ n ∧ fnd l p n lo hi = fnd l p l.length 0 l.length ∧ m = hi - lo) l.length rfl (⟨0, l.length, l.length, rfl, by simp only [go_sem, ↓reduceIte, Int.natCast_zero], Nat.le_refl _, by omega, rfl, by omega⟩) ?_
  rintro m us S2 ⟨lo, hi, n, rfl, rfl, hhi, hn, hfn, hm⟩ II hII
  refine Lwp_seq fun KK3 hKK3 => ?_
  refine Lwp_seq fun KK4 hKK4 => ?_
  refine LregionG [none, none, none] (by kernel_rfl) (by kernel_rfl) ?_
  simp -dsimp only [go_sem, ↓reduceIte, plc_len, plc_take]
  repeat with_reducible refine And.intro (by first | omega | decide) ?_
  refine hKK4 _ _ ?_
  try clear hKK4 KK4
  refine Lwp_cond (by simp only [go_sem, ↓reduceIte, plc_len, plc_take]; rfl) (fun ht => ?_) (fun hf => ?_)
  · skip
    refine Lwp_skip ?_
    try simp -dsimp only [go_sem, ↓reduceIte, plc_len, plc_take]
    refine hKK3 _ _ ?_
    try clear hKK3 KK3
    refine Lwp_block ?_
    refine Lwp_seq fun KK5 hKK5 => ?_
    refine LregionG [none, none, none, none, none] (by kernel_rfl) (by kernel_rfl) ?_
    simp -dsimp only [go_sem, ↓reduceIte, plc_len, plc_take]
    have hlt : lo < hi := by simpa using ht
    have w1 : IntKind.i64.wrap ((lo : Int) + hi) = (lo : Int) + hi := w64 (by omega) (by omega)
    have w2 : ((lo : Int) + hi).tdiv 2 = (((lo + hi) / 2 : Nat) : Int) := by rw [Int.tdiv_eq_ediv_of_nonneg (by omega)]; omega
    have w3 : IntKind.i64.wrap (((lo + hi) / 2 : Nat) : Int) = (((lo + hi) / 2 : Nat) : Int) := w64 (by omega) (by omega)
    have w4 : IntKind.i64.wrap ((((lo + hi) / 2 : Nat) : Int) + 1) = (((lo + hi) / 2 + 1 : Nat) : Int) := w64 (by omega) (by omega)
    have hmid : (lo + hi) / 2 < l.length := by omega
    have hg := plc_getD hmid
    obtain ⟨k, rfl⟩ : ∃ k, n = k + 1 := ⟨n - 1, by omega⟩
    have hmid1 : lo ≤ (lo + hi) / 2 ∧ (lo + hi) / 2 < hi := ⟨by omega, by omega⟩
    simp only [fnd, hlt, if_true] at hfn
    generalize (lo + hi) / 2 = mid at *
    simp only [w1, w2, w3]
    refine hKK5 _ _ ?_
    try clear hKK5 KK5
    refine Lwp_seq fun KK6 hKK6 => ?_
    refine LdrawE [0,1,2,3,4,5] [(S.length, (4, [plc p]))] none (by kernel_rfl) (by kernel_rfl) (by kernel_rfl) (by kernel_rfl) (by simp [Watch.holds, get_app]) ?_
    simp -dsimp only [go_sem, ↓reduceIte, plc_len, plc_take, hg, List.length_map]
    refine ⟨by omega, ?_⟩
    refine (Less_ok (l.getD mid P40) p).k' ?_
    rintro _ rfl
    simp -dsimp only [go_sem, ↓reduceIte, plc_len, plc_take]
    refine hKK6 _ _ ?_
    try clear hKK6 KK6
    refine Lwp_cond (by simp only [go_sem, ↓reduceIte, plc_len, plc_take]; rfl) (fun ht => ?_) (fun hf => ?_)
    · skip
      have hls : lsP (l.getD mid P40) p = true := ht
      refine LregionG [none, none, none] (by kernel_rfl) (by kernel_rfl) ?_
      simp -dsimp only [go_sem, ↓reduceIte, plc_len, plc_take, w4]
      repeat with_reducible refine And.intro (by first | omega | decide) ?_
      simp only [hls, cond_true, cond_false] at hfn
      first
      | exact hII (hi - (mid + 1)) _ _ (by omega) ⟨mid + 1, hi, k, rfl, rfl, hhi, by omega, hfn, rfl⟩
      | exact hII (mid - lo) _ _ (by omega) ⟨lo, mid, k, rfl, rfl, by omega, by omega, hfn, rfl⟩
    · skip
      have hls : lsP (l.getD mid P40) p = false := hf
      refine LregionG [none, none] (by kernel_rfl) (by kernel_rfl) ?_
      simp -dsimp only [go_sem, ↓reduceIte, plc_len, plc_take]
      repeat with_reducible refine And.intro (by first | omega | decide) ?_
      simp only [hls, cond_true, cond_false] at hfn
      first
      | exact hII (hi - (mid + 1)) _ _ (by omega) ⟨mid + 1, hi, k, rfl, rfl, hhi, by omega, hfn, rfl⟩
      | exact hII (mid - lo) _ _ (by omega) ⟨lo, mid, k, rfl, rfl, by omega, by omega, hfn, rfl⟩
  · skip
    refine Lwp_exit ?_
    simp -dsimp only [go_sem, ↓reduceIte, plc_len, plc_take]
    refine hKK2 _ _ ?_
    try clear hKK2 KK2
    refine Lwp_seq fun KK7 hKK7 => ?_
    refine Lwp_seq fun KK8 hKK8 => ?_
    have hnlt : ¬ lo < hi := by simpa using hf
    rw [fnd_done hnlt] at hfn
    refine LdrawE [0,1,2,3,4,5,6,7,8,9,10,11] [(S.length, (4, [plc p]))] none (by kernel_rfl) (by kernel_rfl) (by kernel_rfl) (by kernel_rfl) (by simp [Watch.holds, get_app]) ?_
    simp -dsimp only [go_sem, ↓reduceIte, plc_len, plc_take]
    by_cases hk : lo < l.length
    · skip
      have hg := plc_getD hk
      simp only [plc] at hg
      simp -dsimp only [go_sem, ↓reduceIte, hk, hg, plc, List.length_map, plc_inj]
      refine hKK8 _ _ ?_
      try clear hKK8 KK8
      refine Lwp_cond (by simp only [go_sem, ↓reduceIte, plc_len, plc_take, hk]; rfl) (fun ht => ?_) (fun hf => ?_)
      · skip
        refine Lwp_seq fun KK9 hKK9 => ?_
        refine LregionG [none, none] (by kernel_rfl) (by kernel_rfl) ?_
        simp -dsimp only [go_sem, ↓reduceIte, plc_len, plc_take, hk]
        repeat with_reducible refine And.intro (by first | omega | decide) ?_
        refine hKK9 _ _ ?_
        try clear hKK9 KK9
        refine Lwp_ret ?_
        simp only [LThen, LBlock, LPost, Try.results90]
        simp -dsimp only [go_sem, ↓reduceIte, plc_len, plc_take, hk]
        refine ret_app (by simp only [go_sem, ↓reduceIte, LV.lt, ltL, ltLL, vs_frz, vs_lt, Bool.and_self]) ?_
        simp only [go_sem, ↓reduceIte, vs_frz]
        refine hRR _ ?_
        have ht : l.getD lo P40 = p := by simpa using ht
        rw [find, ← hfn, if_pos ⟨hk, ht⟩]
      · skip
        refine Lwp_skip ?_
        try simp -dsimp only [go_sem, ↓reduceIte, plc_len, plc_take, hk]
        refine hKK7 _ _ ?_
        try clear hKK7 KK7
        refine Lwp_seq fun KK10 hKK10 => ?_
        refine LregionG [none] (by kernel_rfl) (by kernel_rfl) ?_
        simp -dsimp only [go_sem, ↓reduceIte, plc_len, plc_take, hk]
        repeat with_reducible refine And.intro (by first | omega | decide) ?_
        refine hKK10 _ _ ?_
        try clear hKK10 KK10
        refine Lwp_ret ?_
        simp only [LThen, LBlock, LPost, Try.results90]
        simp -dsimp only [go_sem, ↓reduceIte, plc_len, plc_take, hk]
        refine ret_app (by simp only [go_sem, ↓reduceIte, LV.lt, ltL, ltLL, vs_frz, vs_lt, Bool.and_self]) ?_
        simp only [go_sem, ↓reduceIte, vs_frz]
        refine hRR _ ?_
        have hne : ¬ l.getD lo P40 = p := by simpa using hf
        rw [find, ← hfn, if_neg (fun h => hne h.2)]
    · skip
      simp -dsimp only [go_sem, ↓reduceIte, hk]
      refine hKK8 _ _ ?_
      try clear hKK8 KK8
      refine Lwp_cond (by simp only [go_sem, ↓reduceIte, plc_len, plc_take, hk]; rfl) (fun ht => ?_) (fun hf => ?_)
      · skip
        cases ht
      · skip
        refine Lwp_skip ?_
        try simp -dsimp only [go_sem, ↓reduceIte, plc_len, plc_take, hk]
        refine hKK7 _ _ ?_
        try clear hKK7 KK7
        refine Lwp_seq fun KK11 hKK11 => ?_
        refine LregionG [none] (by kernel_rfl) (by kernel_rfl) ?_
        simp -dsimp only [go_sem, ↓reduceIte, plc_len, plc_take, hk]
        repeat with_reducible refine And.intro (by first | omega | decide) ?_
        refine hKK11 _ _ ?_
        try clear hKK11 KK11
        refine Lwp_ret ?_
        simp only [LThen, LBlock, LPost, Try.results90]
        simp -dsimp only [go_sem, ↓reduceIte, plc_len, plc_take, hk]
        refine ret_app (by simp only [go_sem, ↓reduceIte, LV.lt, ltL, ltLL, vs_frz, vs_lt, Bool.and_self]) ?_
        simp only [go_sem, ↓reduceIte, vs_frz]
        refine hRR _ ?_
        rw [find, ← hfn, if_neg (fun h => hk h.1)]

set_option maxHeartbeats 400000 in
theorem At_ok (full : Bool) (l : List P4) (hl : l.length ≤ 1000000) (f a b : Int) (h : isP (f, a, b, 840 - a - b)) : Pc 87 [.sl full (l.map plc), V f, V a, V b] (fun r => r = V (find l (nrm (f, a, b, 840 - a - b)))) := by
  refine Pc_intro 1 Try.func87 rfl (by kernel_rfl) rfl fun S RR hRR => ?_
  obtain ⟨h1, h2, h3, h4, h5⟩ := id h
  dsimp only at h1 h2 h3 h4 h5
  have w1 : IntKind.i64.wrap (840 - a) = 840 - a := w64 (by omega) (by omega)
  have w2 : IntKind.i64.wrap (840 - a - b) = 840 - a - b := w64 (by omega) (by omega)
  have hN := Normal_ok (f, a, b, 840 - a - b) h
  have hF := Find_ok full l (nrm (f, a, b, 840 - a - b)) hl
  simp only [plc] at hN hF
  refine Lwp_seq fun KK0 hKK0 => ?_
  refine LregionG [none] (by kernel_rfl) (by kernel_rfl) ?_
  simp -dsimp only [go_sem, ↓reduceIte, w1, w2]
  repeat with_reducible refine And.intro (by first | omega | decide) ?_
  refine hKK0 _ _ ?_
  try clear hKK0 KK0
  refine Lwp_seq fun KK1 hKK1 => ?_
  refine LregionG [none, none, none, none, none, none, none, none, none, none, none, none, none, none, none] (by kernel_rfl) (by kernel_rfl) ?_
  simp -dsimp only [go_sem, ↓reduceIte, w1, w2]
  refine (hN).k' ?_
  rintro _ rfl
  simp -dsimp only [go_sem, ↓reduceIte, w1, w2]
  refine hKK1 _ _ ?_
  try clear hKK1 KK1
  refine Lwp_seq fun KK2 hKK2 => ?_
  refine LregionG [none, none, none, none] (by kernel_rfl) (by kernel_rfl) ?_
  simp -dsimp only [go_sem, ↓reduceIte, w1, w2]
  refine (hF).k' ?_
  rintro _ rfl
  simp -dsimp only [go_sem, ↓reduceIte, w1, w2]
  refine hKK2 _ _ ?_
  try clear hKK2 KK2
  refine Lwp_ret ?_
  simp only [LThen, LBlock, LPost, Try.results87]
  simp -dsimp only [go_sem, ↓reduceIte, w1, w2]
  refine ret_app (by simp only [go_sem, ↓reduceIte, LV.lt, ltL, ltLL, vs_frz, vs_lt, Bool.and_self]) ?_
  simp only [go_sem, ↓reduceIte, vs_frz]
  refine hRR _ ?_
  rfl

end Go.Proofs.Ytdhngmldmalbbaa
end
