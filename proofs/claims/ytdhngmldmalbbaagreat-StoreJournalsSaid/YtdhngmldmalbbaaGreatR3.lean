/-
  A part of a proof: StoreJournals answers true for all codes, bytes and numbers, without conditions.
-/
import Derived.Test.YtdhngmldmalbbaaGreatR2
import Derived.Test.YtdhngmldmalbbaaGreatProg
section
set_option linter.all false
/-
  Facts on the types of this seat, made by a program (wip/lift/tab.py).
-/
namespace Go.Proofs.YtdhngmldmalbbaaGreat
open Go.Lift
@[go_sem] theorem tab_row3 : rowT Tryz.prog 3 = some false := by kernel_rfl
@[go_sem] theorem tab_size3 : sizeT Tryz.prog 3 = some 1 := by kernel_rfl
@[go_sem] theorem tab_int3 : intT Tryz.prog 3 = some .i64 := by kernel_rfl
@[go_sem] theorem tab_conc3 : Program.concrete Tryz.prog 3 = true := by kernel_rfl
@[go_sem] theorem tab_lay3 : layE Tryz.prog 3 = some (1, 8, [.int .i64 0]) := by kernel_rfl
@[go_sem] theorem tab_row4 : rowT Tryz.prog 4 = some false := by kernel_rfl
@[go_sem] theorem tab_size4 : sizeT Tryz.prog 4 = some 1 := by kernel_rfl
@[go_sem] theorem tab_bool4 : isBoolT Tryz.prog 4 = true := by kernel_rfl
@[go_sem] theorem tab_conc4 : Program.concrete Tryz.prog 4 = true := by kernel_rfl
@[go_sem] theorem tab_lay4 : layE Tryz.prog 4 = some (1, 1, [.bool false]) := by kernel_rfl
@[go_sem] theorem tab_row5 : rowT Tryz.prog 5 = some false := by kernel_rfl
@[go_sem] theorem tab_size5 : sizeT Tryz.prog 5 = some 1 := by kernel_rfl
@[go_sem] theorem tab_int5 : intT Tryz.prog 5 = some .u8 := by kernel_rfl
@[go_sem] theorem tab_conc5 : Program.concrete Tryz.prog 5 = true := by kernel_rfl
@[go_sem] theorem tab_lay5 : layE Tryz.prog 5 = some (1, 1, [.int .u8 0]) := by kernel_rfl
@[go_sem] theorem tab_row9 : rowT Tryz.prog 9 = some false := by kernel_rfl
@[go_sem] theorem tab_size9 : sizeT Tryz.prog 9 = some 1 := by kernel_rfl
@[go_sem] theorem tab_k9 : kT Tryz.prog 9 = .str := by kernel_rfl
@[go_sem] theorem tab_src9 : srcT Tryz.prog 9 = true := by kernel_rfl
@[go_sem] theorem tab_str9 : isStrT Tryz.prog 9 = true := by kernel_rfl
@[go_sem] theorem tab_conc9 : Program.concrete Tryz.prog 9 = true := by kernel_rfl
@[go_sem] theorem tab_lay9 : layE Tryz.prog 9 = some (1, 16, [.str ⟨#[]⟩]) := by kernel_rfl
@[go_sem] theorem tab_row22 : rowT Tryz.prog 22 = some false := by kernel_rfl
@[go_sem] theorem tab_size22 : sizeT Tryz.prog 22 = some 1 := by kernel_rfl
@[go_sem] theorem tab_elem22 : elemT Tryz.prog 22 = some 5 := by kernel_rfl
@[go_sem] theorem tab_k22 : kT Tryz.prog 22 = .sl 5 := by kernel_rfl
@[go_sem] theorem tab_src22 : srcT Tryz.prog 22 = true := by kernel_rfl
@[go_sem] theorem tab_conc22 : Program.concrete Tryz.prog 22 = true := by kernel_rfl
@[go_sem] theorem tab_lay22 : layE Tryz.prog 22 = some (1, 24, [.sl true []]) := by kernel_rfl
@[go_sem] theorem tab_row24 : rowT Tryz.prog 24 = some false := by kernel_rfl
@[go_sem] theorem tab_size24 : sizeT Tryz.prog 24 = some 1 := by kernel_rfl
@[go_sem] theorem tab_ptr24 : isPtrT Tryz.prog 24 = true := by kernel_rfl
@[go_sem] theorem tab_conc24 : Program.concrete Tryz.prog 24 = true := by kernel_rfl
@[go_sem] theorem tab_lay24 : layE Tryz.prog 24 = some (1, 8, [.nilp]) := by kernel_rfl
@[go_sem] theorem tab_row26 : rowT Tryz.prog 26 = some false := by kernel_rfl
@[go_sem] theorem tab_size26 : sizeT Tryz.prog 26 = some 1 := by kernel_rfl
@[go_sem] theorem tab_elem26 : elemT Tryz.prog 26 = some 55 := by kernel_rfl
@[go_sem] theorem tab_k26 : kT Tryz.prog 26 = .sl 55 := by kernel_rfl
@[go_sem] theorem tab_src26 : srcT Tryz.prog 26 = true := by kernel_rfl
@[go_sem] theorem tab_conc26 : Program.concrete Tryz.prog 26 = true := by kernel_rfl
@[go_sem] theorem tab_lay26 : layE Tryz.prog 26 = some (1, 24, [.sl true []]) := by kernel_rfl
@[go_sem] theorem tab_row28 : rowT Tryz.prog 28 = some true := by kernel_rfl
@[go_sem] theorem tab_size28 : sizeT Tryz.prog 28 = some 4 := by kernel_rfl
@[go_sem] theorem tab_conc28 : Program.concrete Tryz.prog 28 = true := by kernel_rfl
@[go_sem] theorem tab_lay28 : layE Tryz.prog 28 = some (4, 32, [.int .i64 0, .int .i64 0, .int .i64 0, .int .i64 0]) := by kernel_rfl
@[go_sem] theorem tab_known28 : knownT Tryz.prog 28 = true := by kernel_rfl
@[go_sem] theorem tab_fld28_0 : fldT Tryz.prog 28 0 = some 0 := by kernel_rfl
@[go_sem] theorem tab_fty28_0 : fldTy Tryz.prog 28 0 = some (3, 0) := by kernel_rfl
@[go_sem] theorem tab_pl28_0 : placeT Tryz.prog 28 0 = some (0, 1) := by kernel_rfl
@[go_sem] theorem tab_fld28_1 : fldT Tryz.prog 28 1 = some 1 := by kernel_rfl
@[go_sem] theorem tab_fty28_1 : fldTy Tryz.prog 28 1 = some (3, 1) := by kernel_rfl
@[go_sem] theorem tab_pl28_1 : placeT Tryz.prog 28 1 = some (1, 1) := by kernel_rfl
@[go_sem] theorem tab_fld28_2 : fldT Tryz.prog 28 2 = some 2 := by kernel_rfl
@[go_sem] theorem tab_fty28_2 : fldTy Tryz.prog 28 2 = some (3, 2) := by kernel_rfl
@[go_sem] theorem tab_pl28_2 : placeT Tryz.prog 28 2 = some (2, 1) := by kernel_rfl
@[go_sem] theorem tab_fld28_3 : fldT Tryz.prog 28 3 = some 3 := by kernel_rfl
@[go_sem] theorem tab_fty28_3 : fldTy Tryz.prog 28 3 = some (3, 3) := by kernel_rfl
@[go_sem] theorem tab_pl28_3 : placeT Tryz.prog 28 3 = some (3, 1) := by kernel_rfl
@[go_sem] theorem tab_row29 : rowT Tryz.prog 29 = some true := by kernel_rfl
@[go_sem] theorem tab_size29 : sizeT Tryz.prog 29 = some 4 := by kernel_rfl
@[go_sem] theorem tab_conc29 : Program.concrete Tryz.prog 29 = true := by kernel_rfl
@[go_sem] theorem tab_lay29 : layE Tryz.prog 29 = some (4, 32, [.int .i64 0, .int .i64 0, .int .i64 0, .int .i64 0]) := by kernel_rfl
@[go_sem] theorem tab_known29 : knownT Tryz.prog 29 = true := by kernel_rfl
@[go_sem] theorem tab_fld29_0 : fldT Tryz.prog 29 0 = some 0 := by kernel_rfl
@[go_sem] theorem tab_fty29_0 : fldTy Tryz.prog 29 0 = some (3, 0) := by kernel_rfl
@[go_sem] theorem tab_pl29_0 : placeT Tryz.prog 29 0 = some (0, 1) := by kernel_rfl
@[go_sem] theorem tab_fld29_1 : fldT Tryz.prog 29 1 = some 1 := by kernel_rfl
@[go_sem] theorem tab_fty29_1 : fldTy Tryz.prog 29 1 = some (3, 1) := by kernel_rfl
@[go_sem] theorem tab_pl29_1 : placeT Tryz.prog 29 1 = some (1, 1) := by kernel_rfl
@[go_sem] theorem tab_fld29_2 : fldT Tryz.prog 29 2 = some 2 := by kernel_rfl
@[go_sem] theorem tab_fty29_2 : fldTy Tryz.prog 29 2 = some (3, 2) := by kernel_rfl
@[go_sem] theorem tab_pl29_2 : placeT Tryz.prog 29 2 = some (2, 1) := by kernel_rfl
@[go_sem] theorem tab_fld29_3 : fldT Tryz.prog 29 3 = some 3 := by kernel_rfl
@[go_sem] theorem tab_fty29_3 : fldTy Tryz.prog 29 3 = some (3, 3) := by kernel_rfl
@[go_sem] theorem tab_pl29_3 : placeT Tryz.prog 29 3 = some (3, 1) := by kernel_rfl
@[go_sem] theorem tab_cells29 : cellsT Tryz.prog 29 = some [3, 3, 3, 3] := by kernel_rfl
@[go_sem] theorem tab_row30 : rowT Tryz.prog 30 = some false := by kernel_rfl
@[go_sem] theorem tab_size30 : sizeT Tryz.prog 30 = some 1 := by kernel_rfl
@[go_sem] theorem tab_elem30 : elemT Tryz.prog 30 = some 77 := by kernel_rfl
@[go_sem] theorem tab_k30 : kT Tryz.prog 30 = .sl 77 := by kernel_rfl
@[go_sem] theorem tab_src30 : srcT Tryz.prog 30 = true := by kernel_rfl
@[go_sem] theorem tab_conc30 : Program.concrete Tryz.prog 30 = true := by kernel_rfl
@[go_sem] theorem tab_lay30 : layE Tryz.prog 30 = some (1, 24, [.sl true []]) := by kernel_rfl
@[go_sem] theorem tab_row31 : rowT Tryz.prog 31 = some true := by kernel_rfl
@[go_sem] theorem tab_size31 : sizeT Tryz.prog 31 = some 8 := by kernel_rfl
@[go_sem] theorem tab_conc31 : Program.concrete Tryz.prog 31 = true := by kernel_rfl
@[go_sem] theorem tab_lay31 : layE Tryz.prog 31 = some (8, 88, [.int .i64 0, .str ⟨#[]⟩, .int .i64 0, .int .i64 0, .int .i64 0, .int .i64 0, .int .i64 0, .sl true []]) := by kernel_rfl
@[go_sem] theorem tab_known31 : knownT Tryz.prog 31 = true := by kernel_rfl
@[go_sem] theorem tab_fld31_0 : fldT Tryz.prog 31 0 = some 0 := by kernel_rfl
@[go_sem] theorem tab_fty31_0 : fldTy Tryz.prog 31 0 = some (3, 0) := by kernel_rfl
@[go_sem] theorem tab_pl31_0 : placeT Tryz.prog 31 0 = some (0, 1) := by kernel_rfl
@[go_sem] theorem tab_fld31_1 : fldT Tryz.prog 31 1 = some 1 := by kernel_rfl
@[go_sem] theorem tab_fty31_1 : fldTy Tryz.prog 31 1 = some (9, 1) := by kernel_rfl
@[go_sem] theorem tab_pl31_1 : placeT Tryz.prog 31 1 = some (1, 1) := by kernel_rfl
@[go_sem] theorem tab_fld31_2 : fldT Tryz.prog 31 2 = some 2 := by kernel_rfl
@[go_sem] theorem tab_fty31_2 : fldTy Tryz.prog 31 2 = some (3, 2) := by kernel_rfl
@[go_sem] theorem tab_pl31_2 : placeT Tryz.prog 31 2 = some (2, 1) := by kernel_rfl
@[go_sem] theorem tab_fld31_3 : fldT Tryz.prog 31 3 = some 3 := by kernel_rfl
@[go_sem] theorem tab_fty31_3 : fldTy Tryz.prog 31 3 = some (29, 3) := by kernel_rfl
@[go_sem] theorem tab_pl31_3 : placeT Tryz.prog 31 3 = some (3, 4) := by kernel_rfl
@[go_sem] theorem tab_fld31_4 : fldT Tryz.prog 31 4 = some 7 := by kernel_rfl
@[go_sem] theorem tab_fty31_4 : fldTy Tryz.prog 31 4 = some (30, 7) := by kernel_rfl
@[go_sem] theorem tab_pl31_4 : placeT Tryz.prog 31 4 = some (7, 1) := by kernel_rfl
@[go_sem] theorem tab_row32 : rowT Tryz.prog 32 = some true := by kernel_rfl
@[go_sem] theorem tab_size32 : sizeT Tryz.prog 32 = some 8 := by kernel_rfl
@[go_sem] theorem tab_conc32 : Program.concrete Tryz.prog 32 = true := by kernel_rfl
@[go_sem] theorem tab_lay32 : layE Tryz.prog 32 = some (8, 88, [.int .i64 0, .str ⟨#[]⟩, .int .i64 0, .int .i64 0, .int .i64 0, .int .i64 0, .int .i64 0, .sl true []]) := by kernel_rfl
@[go_sem] theorem tab_known32 : knownT Tryz.prog 32 = true := by kernel_rfl
@[go_sem] theorem tab_fld32_0 : fldT Tryz.prog 32 0 = some 0 := by kernel_rfl
@[go_sem] theorem tab_fty32_0 : fldTy Tryz.prog 32 0 = some (3, 0) := by kernel_rfl
@[go_sem] theorem tab_pl32_0 : placeT Tryz.prog 32 0 = some (0, 1) := by kernel_rfl
@[go_sem] theorem tab_fld32_1 : fldT Tryz.prog 32 1 = some 1 := by kernel_rfl
@[go_sem] theorem tab_fty32_1 : fldTy Tryz.prog 32 1 = some (9, 1) := by kernel_rfl
@[go_sem] theorem tab_pl32_1 : placeT Tryz.prog 32 1 = some (1, 1) := by kernel_rfl
@[go_sem] theorem tab_fld32_2 : fldT Tryz.prog 32 2 = some 2 := by kernel_rfl
@[go_sem] theorem tab_fty32_2 : fldTy Tryz.prog 32 2 = some (3, 2) := by kernel_rfl
@[go_sem] theorem tab_pl32_2 : placeT Tryz.prog 32 2 = some (2, 1) := by kernel_rfl
@[go_sem] theorem tab_fld32_3 : fldT Tryz.prog 32 3 = some 3 := by kernel_rfl
@[go_sem] theorem tab_fty32_3 : fldTy Tryz.prog 32 3 = some (29, 3) := by kernel_rfl
@[go_sem] theorem tab_pl32_3 : placeT Tryz.prog 32 3 = some (3, 4) := by kernel_rfl
@[go_sem] theorem tab_fld32_4 : fldT Tryz.prog 32 4 = some 7 := by kernel_rfl
@[go_sem] theorem tab_fty32_4 : fldTy Tryz.prog 32 4 = some (30, 7) := by kernel_rfl
@[go_sem] theorem tab_pl32_4 : placeT Tryz.prog 32 4 = some (7, 1) := by kernel_rfl
@[go_sem] theorem tab_row33 : rowT Tryz.prog 33 = some true := by kernel_rfl
@[go_sem] theorem tab_size33 : sizeT Tryz.prog 33 = some 10 := by kernel_rfl
@[go_sem] theorem tab_conc33 : Program.concrete Tryz.prog 33 = true := by kernel_rfl
@[go_sem] theorem tab_lay33 : layE Tryz.prog 33 = some (10, 104, [.int .i64 0, .str ⟨#[]⟩, .int .i64 0, .int .i64 0, .int .i64 0, .int .i64 0, .int .i64 0, .sl true [], .int .i64 0, .int .i64 0]) := by kernel_rfl
@[go_sem] theorem tab_known33 : knownT Tryz.prog 33 = true := by kernel_rfl
@[go_sem] theorem tab_fld33_0 : fldT Tryz.prog 33 0 = some 0 := by kernel_rfl
@[go_sem] theorem tab_fty33_0 : fldTy Tryz.prog 33 0 = some (32, 0) := by kernel_rfl
@[go_sem] theorem tab_pl33_0 : placeT Tryz.prog 33 0 = some (0, 8) := by kernel_rfl
@[go_sem] theorem tab_fld33_1 : fldT Tryz.prog 33 1 = some 8 := by kernel_rfl
@[go_sem] theorem tab_fty33_1 : fldTy Tryz.prog 33 1 = some (3, 8) := by kernel_rfl
@[go_sem] theorem tab_pl33_1 : placeT Tryz.prog 33 1 = some (8, 1) := by kernel_rfl
@[go_sem] theorem tab_fld33_2 : fldT Tryz.prog 33 2 = some 9 := by kernel_rfl
@[go_sem] theorem tab_fty33_2 : fldTy Tryz.prog 33 2 = some (3, 9) := by kernel_rfl
@[go_sem] theorem tab_pl33_2 : placeT Tryz.prog 33 2 = some (9, 1) := by kernel_rfl
@[go_sem] theorem tab_row34 : rowT Tryz.prog 34 = some true := by kernel_rfl
@[go_sem] theorem tab_size34 : sizeT Tryz.prog 34 = some 10 := by kernel_rfl
@[go_sem] theorem tab_conc34 : Program.concrete Tryz.prog 34 = true := by kernel_rfl
@[go_sem] theorem tab_lay34 : layE Tryz.prog 34 = some (10, 104, [.int .i64 0, .str ⟨#[]⟩, .int .i64 0, .int .i64 0, .int .i64 0, .int .i64 0, .int .i64 0, .sl true [], .int .i64 0, .int .i64 0]) := by kernel_rfl
@[go_sem] theorem tab_known34 : knownT Tryz.prog 34 = true := by kernel_rfl
@[go_sem] theorem tab_fld34_0 : fldT Tryz.prog 34 0 = some 0 := by kernel_rfl
@[go_sem] theorem tab_fty34_0 : fldTy Tryz.prog 34 0 = some (32, 0) := by kernel_rfl
@[go_sem] theorem tab_pl34_0 : placeT Tryz.prog 34 0 = some (0, 8) := by kernel_rfl
@[go_sem] theorem tab_fld34_1 : fldT Tryz.prog 34 1 = some 8 := by kernel_rfl
@[go_sem] theorem tab_fty34_1 : fldTy Tryz.prog 34 1 = some (3, 8) := by kernel_rfl
@[go_sem] theorem tab_pl34_1 : placeT Tryz.prog 34 1 = some (8, 1) := by kernel_rfl
@[go_sem] theorem tab_fld34_2 : fldT Tryz.prog 34 2 = some 9 := by kernel_rfl
@[go_sem] theorem tab_fty34_2 : fldTy Tryz.prog 34 2 = some (3, 9) := by kernel_rfl
@[go_sem] theorem tab_pl34_2 : placeT Tryz.prog 34 2 = some (9, 1) := by kernel_rfl
@[go_sem] theorem tab_row35 : rowT Tryz.prog 35 = some true := by kernel_rfl
@[go_sem] theorem tab_size35 : sizeT Tryz.prog 35 = some 7 := by kernel_rfl
@[go_sem] theorem tab_conc35 : Program.concrete Tryz.prog 35 = true := by kernel_rfl
@[go_sem] theorem tab_lay35 : layE Tryz.prog 35 = some (7, 72, [.int .i64 0, .bool false, .int .i64 0, .int .i64 0, .int .i64 0, .int .i64 0, .sl true []]) := by kernel_rfl
@[go_sem] theorem tab_known35 : knownT Tryz.prog 35 = true := by kernel_rfl
@[go_sem] theorem tab_fld35_0 : fldT Tryz.prog 35 0 = some 0 := by kernel_rfl
@[go_sem] theorem tab_fty35_0 : fldTy Tryz.prog 35 0 = some (3, 0) := by kernel_rfl
@[go_sem] theorem tab_pl35_0 : placeT Tryz.prog 35 0 = some (0, 1) := by kernel_rfl
@[go_sem] theorem tab_fld35_1 : fldT Tryz.prog 35 1 = some 1 := by kernel_rfl
@[go_sem] theorem tab_fty35_1 : fldTy Tryz.prog 35 1 = some (4, 1) := by kernel_rfl
@[go_sem] theorem tab_pl35_1 : placeT Tryz.prog 35 1 = some (1, 1) := by kernel_rfl
@[go_sem] theorem tab_fld35_2 : fldT Tryz.prog 35 2 = some 2 := by kernel_rfl
@[go_sem] theorem tab_fty35_2 : fldTy Tryz.prog 35 2 = some (29, 2) := by kernel_rfl
@[go_sem] theorem tab_pl35_2 : placeT Tryz.prog 35 2 = some (2, 4) := by kernel_rfl
@[go_sem] theorem tab_fld35_3 : fldT Tryz.prog 35 3 = some 6 := by kernel_rfl
@[go_sem] theorem tab_fty35_3 : fldTy Tryz.prog 35 3 = some (30, 6) := by kernel_rfl
@[go_sem] theorem tab_pl35_3 : placeT Tryz.prog 35 3 = some (6, 1) := by kernel_rfl
@[go_sem] theorem tab_row36 : rowT Tryz.prog 36 = some true := by kernel_rfl
@[go_sem] theorem tab_size36 : sizeT Tryz.prog 36 = some 7 := by kernel_rfl
@[go_sem] theorem tab_conc36 : Program.concrete Tryz.prog 36 = true := by kernel_rfl
@[go_sem] theorem tab_lay36 : layE Tryz.prog 36 = some (7, 72, [.int .i64 0, .bool false, .int .i64 0, .int .i64 0, .int .i64 0, .int .i64 0, .sl true []]) := by kernel_rfl
@[go_sem] theorem tab_known36 : knownT Tryz.prog 36 = true := by kernel_rfl
@[go_sem] theorem tab_fld36_0 : fldT Tryz.prog 36 0 = some 0 := by kernel_rfl
@[go_sem] theorem tab_fty36_0 : fldTy Tryz.prog 36 0 = some (3, 0) := by kernel_rfl
@[go_sem] theorem tab_pl36_0 : placeT Tryz.prog 36 0 = some (0, 1) := by kernel_rfl
@[go_sem] theorem tab_fld36_1 : fldT Tryz.prog 36 1 = some 1 := by kernel_rfl
@[go_sem] theorem tab_fty36_1 : fldTy Tryz.prog 36 1 = some (4, 1) := by kernel_rfl
@[go_sem] theorem tab_pl36_1 : placeT Tryz.prog 36 1 = some (1, 1) := by kernel_rfl
@[go_sem] theorem tab_fld36_2 : fldT Tryz.prog 36 2 = some 2 := by kernel_rfl
@[go_sem] theorem tab_fty36_2 : fldTy Tryz.prog 36 2 = some (29, 2) := by kernel_rfl
@[go_sem] theorem tab_pl36_2 : placeT Tryz.prog 36 2 = some (2, 4) := by kernel_rfl
@[go_sem] theorem tab_fld36_3 : fldT Tryz.prog 36 3 = some 6 := by kernel_rfl
@[go_sem] theorem tab_fty36_3 : fldTy Tryz.prog 36 3 = some (30, 6) := by kernel_rfl
@[go_sem] theorem tab_pl36_3 : placeT Tryz.prog 36 3 = some (6, 1) := by kernel_rfl
@[go_sem] theorem tab_row37 : rowT Tryz.prog 37 = some false := by kernel_rfl
@[go_sem] theorem tab_size37 : sizeT Tryz.prog 37 = some 1 := by kernel_rfl
@[go_sem] theorem tab_elem37 : elemT Tryz.prog 37 = some 32 := by kernel_rfl
@[go_sem] theorem tab_k37 : kT Tryz.prog 37 = .sl 32 := by kernel_rfl
@[go_sem] theorem tab_src37 : srcT Tryz.prog 37 = true := by kernel_rfl
@[go_sem] theorem tab_conc37 : Program.concrete Tryz.prog 37 = true := by kernel_rfl
@[go_sem] theorem tab_lay37 : layE Tryz.prog 37 = some (1, 24, [.sl true []]) := by kernel_rfl
@[go_sem] theorem tab_row38 : rowT Tryz.prog 38 = some false := by kernel_rfl
@[go_sem] theorem tab_size38 : sizeT Tryz.prog 38 = some 1 := by kernel_rfl
@[go_sem] theorem tab_elem38 : elemT Tryz.prog 38 = some 3 := by kernel_rfl
@[go_sem] theorem tab_k38 : kT Tryz.prog 38 = .sl 3 := by kernel_rfl
@[go_sem] theorem tab_src38 : srcT Tryz.prog 38 = true := by kernel_rfl
@[go_sem] theorem tab_conc38 : Program.concrete Tryz.prog 38 = true := by kernel_rfl
@[go_sem] theorem tab_lay38 : layE Tryz.prog 38 = some (1, 24, [.sl true []]) := by kernel_rfl
@[go_sem] theorem tab_row39 : rowT Tryz.prog 39 = some false := by kernel_rfl
@[go_sem] theorem tab_size39 : sizeT Tryz.prog 39 = some 1 := by kernel_rfl
@[go_sem] theorem tab_int39 : intT Tryz.prog 39 = some .u64 := by kernel_rfl
@[go_sem] theorem tab_conc39 : Program.concrete Tryz.prog 39 = true := by kernel_rfl
@[go_sem] theorem tab_lay39 : layE Tryz.prog 39 = some (1, 8, [.int .u64 0]) := by kernel_rfl
@[go_sem] theorem tab_row40 : rowT Tryz.prog 40 = some true := by kernel_rfl
@[go_sem] theorem tab_size40 : sizeT Tryz.prog 40 = some 2 := by kernel_rfl
@[go_sem] theorem tab_conc40 : Program.concrete Tryz.prog 40 = true := by kernel_rfl
@[go_sem] theorem tab_lay40 : layE Tryz.prog 40 = some (2, 16, [.int .i64 0, .int .u64 0]) := by kernel_rfl
@[go_sem] theorem tab_known40 : knownT Tryz.prog 40 = true := by kernel_rfl
@[go_sem] theorem tab_fld40_0 : fldT Tryz.prog 40 0 = some 0 := by kernel_rfl
@[go_sem] theorem tab_fty40_0 : fldTy Tryz.prog 40 0 = some (3, 0) := by kernel_rfl
@[go_sem] theorem tab_pl40_0 : placeT Tryz.prog 40 0 = some (0, 1) := by kernel_rfl
@[go_sem] theorem tab_fld40_1 : fldT Tryz.prog 40 1 = some 1 := by kernel_rfl
@[go_sem] theorem tab_fty40_1 : fldTy Tryz.prog 40 1 = some (39, 1) := by kernel_rfl
@[go_sem] theorem tab_pl40_1 : placeT Tryz.prog 40 1 = some (1, 1) := by kernel_rfl
@[go_sem] theorem tab_row41 : rowT Tryz.prog 41 = some true := by kernel_rfl
@[go_sem] theorem tab_size41 : sizeT Tryz.prog 41 = some 2 := by kernel_rfl
@[go_sem] theorem tab_conc41 : Program.concrete Tryz.prog 41 = true := by kernel_rfl
@[go_sem] theorem tab_lay41 : layE Tryz.prog 41 = some (2, 16, [.int .i64 0, .int .u64 0]) := by kernel_rfl
@[go_sem] theorem tab_known41 : knownT Tryz.prog 41 = true := by kernel_rfl
@[go_sem] theorem tab_fld41_0 : fldT Tryz.prog 41 0 = some 0 := by kernel_rfl
@[go_sem] theorem tab_fty41_0 : fldTy Tryz.prog 41 0 = some (3, 0) := by kernel_rfl
@[go_sem] theorem tab_pl41_0 : placeT Tryz.prog 41 0 = some (0, 1) := by kernel_rfl
@[go_sem] theorem tab_fld41_1 : fldT Tryz.prog 41 1 = some 1 := by kernel_rfl
@[go_sem] theorem tab_fty41_1 : fldTy Tryz.prog 41 1 = some (39, 1) := by kernel_rfl
@[go_sem] theorem tab_pl41_1 : placeT Tryz.prog 41 1 = some (1, 1) := by kernel_rfl
@[go_sem] theorem tab_cells41 : cellsT Tryz.prog 41 = some [3, 39] := by kernel_rfl
@[go_sem] theorem tab_row42 : rowT Tryz.prog 42 = some true := by kernel_rfl
@[go_sem] theorem tab_size42 : sizeT Tryz.prog 42 = some 4 := by kernel_rfl
@[go_sem] theorem tab_conc42 : Program.concrete Tryz.prog 42 = true := by kernel_rfl
@[go_sem] theorem tab_lay42 : layE Tryz.prog 42 = some (4, 32, [.int .i64 0, .int .u64 0, .int .i64 0, .int .i64 0]) := by kernel_rfl
@[go_sem] theorem tab_known42 : knownT Tryz.prog 42 = true := by kernel_rfl
@[go_sem] theorem tab_fld42_0 : fldT Tryz.prog 42 0 = some 0 := by kernel_rfl
@[go_sem] theorem tab_fty42_0 : fldTy Tryz.prog 42 0 = some (41, 0) := by kernel_rfl
@[go_sem] theorem tab_pl42_0 : placeT Tryz.prog 42 0 = some (0, 2) := by kernel_rfl
@[go_sem] theorem tab_fld42_1 : fldT Tryz.prog 42 1 = some 2 := by kernel_rfl
@[go_sem] theorem tab_fty42_1 : fldTy Tryz.prog 42 1 = some (3, 2) := by kernel_rfl
@[go_sem] theorem tab_pl42_1 : placeT Tryz.prog 42 1 = some (2, 1) := by kernel_rfl
@[go_sem] theorem tab_fld42_2 : fldT Tryz.prog 42 2 = some 3 := by kernel_rfl
@[go_sem] theorem tab_fty42_2 : fldTy Tryz.prog 42 2 = some (3, 3) := by kernel_rfl
@[go_sem] theorem tab_pl42_2 : placeT Tryz.prog 42 2 = some (3, 1) := by kernel_rfl
@[go_sem] theorem tab_row43 : rowT Tryz.prog 43 = some true := by kernel_rfl
@[go_sem] theorem tab_size43 : sizeT Tryz.prog 43 = some 4 := by kernel_rfl
@[go_sem] theorem tab_conc43 : Program.concrete Tryz.prog 43 = true := by kernel_rfl
@[go_sem] theorem tab_lay43 : layE Tryz.prog 43 = some (4, 32, [.int .i64 0, .int .u64 0, .int .i64 0, .int .i64 0]) := by kernel_rfl
@[go_sem] theorem tab_known43 : knownT Tryz.prog 43 = true := by kernel_rfl
@[go_sem] theorem tab_fld43_0 : fldT Tryz.prog 43 0 = some 0 := by kernel_rfl
@[go_sem] theorem tab_fty43_0 : fldTy Tryz.prog 43 0 = some (41, 0) := by kernel_rfl
@[go_sem] theorem tab_pl43_0 : placeT Tryz.prog 43 0 = some (0, 2) := by kernel_rfl
@[go_sem] theorem tab_fld43_1 : fldT Tryz.prog 43 1 = some 2 := by kernel_rfl
@[go_sem] theorem tab_fty43_1 : fldTy Tryz.prog 43 1 = some (3, 2) := by kernel_rfl
@[go_sem] theorem tab_pl43_1 : placeT Tryz.prog 43 1 = some (2, 1) := by kernel_rfl
@[go_sem] theorem tab_fld43_2 : fldT Tryz.prog 43 2 = some 3 := by kernel_rfl
@[go_sem] theorem tab_fty43_2 : fldTy Tryz.prog 43 2 = some (3, 3) := by kernel_rfl
@[go_sem] theorem tab_pl43_2 : placeT Tryz.prog 43 2 = some (3, 1) := by kernel_rfl
@[go_sem] theorem tab_row44 : rowT Tryz.prog 44 = some true := by kernel_rfl
@[go_sem] theorem tab_size44 : sizeT Tryz.prog 44 = some 8 := by kernel_rfl
@[go_sem] theorem tab_conc44 : Program.concrete Tryz.prog 44 = true := by kernel_rfl
@[go_sem] theorem tab_lay44 : layE Tryz.prog 44 = some (8, 112, [.sl true [], .sl true [], .sl true [], .int .i64 0, .int .u64 0, .int .i64 0, .int .i64 0, .int .i64 0]) := by kernel_rfl
@[go_sem] theorem tab_known44 : knownT Tryz.prog 44 = true := by kernel_rfl
@[go_sem] theorem tab_fld44_0 : fldT Tryz.prog 44 0 = some 0 := by kernel_rfl
@[go_sem] theorem tab_fty44_0 : fldTy Tryz.prog 44 0 = some (38, 0) := by kernel_rfl
@[go_sem] theorem tab_pl44_0 : placeT Tryz.prog 44 0 = some (0, 1) := by kernel_rfl
@[go_sem] theorem tab_fld44_1 : fldT Tryz.prog 44 1 = some 1 := by kernel_rfl
@[go_sem] theorem tab_fty44_1 : fldTy Tryz.prog 44 1 = some (38, 1) := by kernel_rfl
@[go_sem] theorem tab_pl44_1 : placeT Tryz.prog 44 1 = some (1, 1) := by kernel_rfl
@[go_sem] theorem tab_fld44_2 : fldT Tryz.prog 44 2 = some 2 := by kernel_rfl
@[go_sem] theorem tab_fty44_2 : fldTy Tryz.prog 44 2 = some (38, 2) := by kernel_rfl
@[go_sem] theorem tab_pl44_2 : placeT Tryz.prog 44 2 = some (2, 1) := by kernel_rfl
@[go_sem] theorem tab_fld44_3 : fldT Tryz.prog 44 3 = some 3 := by kernel_rfl
@[go_sem] theorem tab_fty44_3 : fldTy Tryz.prog 44 3 = some (43, 3) := by kernel_rfl
@[go_sem] theorem tab_pl44_3 : placeT Tryz.prog 44 3 = some (3, 4) := by kernel_rfl
@[go_sem] theorem tab_fld44_4 : fldT Tryz.prog 44 4 = some 7 := by kernel_rfl
@[go_sem] theorem tab_fty44_4 : fldTy Tryz.prog 44 4 = some (3, 7) := by kernel_rfl
@[go_sem] theorem tab_pl44_4 : placeT Tryz.prog 44 4 = some (7, 1) := by kernel_rfl
@[go_sem] theorem tab_row45 : rowT Tryz.prog 45 = some true := by kernel_rfl
@[go_sem] theorem tab_size45 : sizeT Tryz.prog 45 = some 8 := by kernel_rfl
@[go_sem] theorem tab_conc45 : Program.concrete Tryz.prog 45 = true := by kernel_rfl
@[go_sem] theorem tab_lay45 : layE Tryz.prog 45 = some (8, 112, [.sl true [], .sl true [], .sl true [], .int .i64 0, .int .u64 0, .int .i64 0, .int .i64 0, .int .i64 0]) := by kernel_rfl
@[go_sem] theorem tab_known45 : knownT Tryz.prog 45 = true := by kernel_rfl
@[go_sem] theorem tab_fld45_0 : fldT Tryz.prog 45 0 = some 0 := by kernel_rfl
@[go_sem] theorem tab_fty45_0 : fldTy Tryz.prog 45 0 = some (38, 0) := by kernel_rfl
@[go_sem] theorem tab_pl45_0 : placeT Tryz.prog 45 0 = some (0, 1) := by kernel_rfl
@[go_sem] theorem tab_fld45_1 : fldT Tryz.prog 45 1 = some 1 := by kernel_rfl
@[go_sem] theorem tab_fty45_1 : fldTy Tryz.prog 45 1 = some (38, 1) := by kernel_rfl
@[go_sem] theorem tab_pl45_1 : placeT Tryz.prog 45 1 = some (1, 1) := by kernel_rfl
@[go_sem] theorem tab_fld45_2 : fldT Tryz.prog 45 2 = some 2 := by kernel_rfl
@[go_sem] theorem tab_fty45_2 : fldTy Tryz.prog 45 2 = some (38, 2) := by kernel_rfl
@[go_sem] theorem tab_pl45_2 : placeT Tryz.prog 45 2 = some (2, 1) := by kernel_rfl
@[go_sem] theorem tab_fld45_3 : fldT Tryz.prog 45 3 = some 3 := by kernel_rfl
@[go_sem] theorem tab_fty45_3 : fldTy Tryz.prog 45 3 = some (43, 3) := by kernel_rfl
@[go_sem] theorem tab_pl45_3 : placeT Tryz.prog 45 3 = some (3, 4) := by kernel_rfl
@[go_sem] theorem tab_fld45_4 : fldT Tryz.prog 45 4 = some 7 := by kernel_rfl
@[go_sem] theorem tab_fty45_4 : fldTy Tryz.prog 45 4 = some (3, 7) := by kernel_rfl
@[go_sem] theorem tab_pl45_4 : placeT Tryz.prog 45 4 = some (7, 1) := by kernel_rfl
@[go_sem] theorem tab_row46 : rowT Tryz.prog 46 = some true := by kernel_rfl
@[go_sem] theorem tab_size46 : sizeT Tryz.prog 46 = some 3 := by kernel_rfl
@[go_sem] theorem tab_conc46 : Program.concrete Tryz.prog 46 = true := by kernel_rfl
@[go_sem] theorem tab_lay46 : layE Tryz.prog 46 = some (3, 56, [.int .i64 0, .sl true [], .sl true []]) := by kernel_rfl
@[go_sem] theorem tab_known46 : knownT Tryz.prog 46 = true := by kernel_rfl
@[go_sem] theorem tab_fld46_0 : fldT Tryz.prog 46 0 = some 0 := by kernel_rfl
@[go_sem] theorem tab_fty46_0 : fldTy Tryz.prog 46 0 = some (3, 0) := by kernel_rfl
@[go_sem] theorem tab_pl46_0 : placeT Tryz.prog 46 0 = some (0, 1) := by kernel_rfl
@[go_sem] theorem tab_fld46_1 : fldT Tryz.prog 46 1 = some 1 := by kernel_rfl
@[go_sem] theorem tab_fty46_1 : fldTy Tryz.prog 46 1 = some (38, 1) := by kernel_rfl
@[go_sem] theorem tab_pl46_1 : placeT Tryz.prog 46 1 = some (1, 1) := by kernel_rfl
@[go_sem] theorem tab_fld46_2 : fldT Tryz.prog 46 2 = some 2 := by kernel_rfl
@[go_sem] theorem tab_fty46_2 : fldTy Tryz.prog 46 2 = some (38, 2) := by kernel_rfl
@[go_sem] theorem tab_pl46_2 : placeT Tryz.prog 46 2 = some (2, 1) := by kernel_rfl
@[go_sem] theorem tab_row47 : rowT Tryz.prog 47 = some true := by kernel_rfl
@[go_sem] theorem tab_size47 : sizeT Tryz.prog 47 = some 3 := by kernel_rfl
@[go_sem] theorem tab_conc47 : Program.concrete Tryz.prog 47 = true := by kernel_rfl
@[go_sem] theorem tab_lay47 : layE Tryz.prog 47 = some (3, 56, [.int .i64 0, .sl true [], .sl true []]) := by kernel_rfl
@[go_sem] theorem tab_known47 : knownT Tryz.prog 47 = true := by kernel_rfl
@[go_sem] theorem tab_fld47_0 : fldT Tryz.prog 47 0 = some 0 := by kernel_rfl
@[go_sem] theorem tab_fty47_0 : fldTy Tryz.prog 47 0 = some (3, 0) := by kernel_rfl
@[go_sem] theorem tab_pl47_0 : placeT Tryz.prog 47 0 = some (0, 1) := by kernel_rfl
@[go_sem] theorem tab_fld47_1 : fldT Tryz.prog 47 1 = some 1 := by kernel_rfl
@[go_sem] theorem tab_fty47_1 : fldTy Tryz.prog 47 1 = some (38, 1) := by kernel_rfl
@[go_sem] theorem tab_pl47_1 : placeT Tryz.prog 47 1 = some (1, 1) := by kernel_rfl
@[go_sem] theorem tab_fld47_2 : fldT Tryz.prog 47 2 = some 2 := by kernel_rfl
@[go_sem] theorem tab_fty47_2 : fldTy Tryz.prog 47 2 = some (38, 2) := by kernel_rfl
@[go_sem] theorem tab_pl47_2 : placeT Tryz.prog 47 2 = some (2, 1) := by kernel_rfl
@[go_sem] theorem tab_row48 : rowT Tryz.prog 48 = some false := by kernel_rfl
@[go_sem] theorem tab_size48 : sizeT Tryz.prog 48 = some 1 := by kernel_rfl
@[go_sem] theorem tab_elem48 : elemT Tryz.prog 48 = some 95 := by kernel_rfl
@[go_sem] theorem tab_k48 : kT Tryz.prog 48 = .sl 95 := by kernel_rfl
@[go_sem] theorem tab_src48 : srcT Tryz.prog 48 = true := by kernel_rfl
@[go_sem] theorem tab_conc48 : Program.concrete Tryz.prog 48 = true := by kernel_rfl
@[go_sem] theorem tab_lay48 : layE Tryz.prog 48 = some (1, 24, [.sl true []]) := by kernel_rfl
@[go_sem] theorem tab_row49 : rowT Tryz.prog 49 = some false := by kernel_rfl
@[go_sem] theorem tab_size49 : sizeT Tryz.prog 49 = some 1 := by kernel_rfl
@[go_sem] theorem tab_elem49 : elemT Tryz.prog 49 = some 9 := by kernel_rfl
@[go_sem] theorem tab_k49 : kT Tryz.prog 49 = .sl 9 := by kernel_rfl
@[go_sem] theorem tab_src49 : srcT Tryz.prog 49 = true := by kernel_rfl
@[go_sem] theorem tab_conc49 : Program.concrete Tryz.prog 49 = true := by kernel_rfl
@[go_sem] theorem tab_lay49 : layE Tryz.prog 49 = some (1, 24, [.sl true []]) := by kernel_rfl
@[go_sem] theorem tab_row50 : rowT Tryz.prog 50 = some true := by kernel_rfl
@[go_sem] theorem tab_size50 : sizeT Tryz.prog 50 = some 2 := by kernel_rfl
@[go_sem] theorem tab_conc50 : Program.concrete Tryz.prog 50 = true := by kernel_rfl
@[go_sem] theorem tab_lay50 : layE Tryz.prog 50 = some (2, 48, [.sl true [], .sl true []]) := by kernel_rfl
@[go_sem] theorem tab_known50 : knownT Tryz.prog 50 = true := by kernel_rfl
@[go_sem] theorem tab_fld50_0 : fldT Tryz.prog 50 0 = some 0 := by kernel_rfl
@[go_sem] theorem tab_fty50_0 : fldTy Tryz.prog 50 0 = some (48, 0) := by kernel_rfl
@[go_sem] theorem tab_pl50_0 : placeT Tryz.prog 50 0 = some (0, 1) := by kernel_rfl
@[go_sem] theorem tab_fld50_1 : fldT Tryz.prog 50 1 = some 1 := by kernel_rfl
@[go_sem] theorem tab_fty50_1 : fldTy Tryz.prog 50 1 = some (49, 1) := by kernel_rfl
@[go_sem] theorem tab_pl50_1 : placeT Tryz.prog 50 1 = some (1, 1) := by kernel_rfl
@[go_sem] theorem tab_row51 : rowT Tryz.prog 51 = some true := by kernel_rfl
@[go_sem] theorem tab_size51 : sizeT Tryz.prog 51 = some 2 := by kernel_rfl
@[go_sem] theorem tab_conc51 : Program.concrete Tryz.prog 51 = true := by kernel_rfl
@[go_sem] theorem tab_lay51 : layE Tryz.prog 51 = some (2, 48, [.sl true [], .sl true []]) := by kernel_rfl
@[go_sem] theorem tab_known51 : knownT Tryz.prog 51 = true := by kernel_rfl
@[go_sem] theorem tab_fld51_0 : fldT Tryz.prog 51 0 = some 0 := by kernel_rfl
@[go_sem] theorem tab_fty51_0 : fldTy Tryz.prog 51 0 = some (48, 0) := by kernel_rfl
@[go_sem] theorem tab_pl51_0 : placeT Tryz.prog 51 0 = some (0, 1) := by kernel_rfl
@[go_sem] theorem tab_fld51_1 : fldT Tryz.prog 51 1 = some 1 := by kernel_rfl
@[go_sem] theorem tab_fty51_1 : fldTy Tryz.prog 51 1 = some (49, 1) := by kernel_rfl
@[go_sem] theorem tab_pl51_1 : placeT Tryz.prog 51 1 = some (1, 1) := by kernel_rfl
@[go_sem] theorem tab_row52 : rowT Tryz.prog 52 = some true := by kernel_rfl
@[go_sem] theorem tab_size52 : sizeT Tryz.prog 52 = some 17 := by kernel_rfl
@[go_sem] theorem tab_conc52 : Program.concrete Tryz.prog 52 = true := by kernel_rfl
@[go_sem] theorem tab_lay52 : layE Tryz.prog 52 = some (17, 264, [.int .i64 0, .int .i64 0, .int .i64 0, .sl true [], .sl true [], .sl true [], .sl true [], .int .i64 0, .int .u64 0, .int .i64 0, .int .i64 0, .int .i64 0, .int .i64 0, .sl true [], .sl true [], .sl true [], .sl true []]) := by kernel_rfl
@[go_sem] theorem tab_known52 : knownT Tryz.prog 52 = true := by kernel_rfl
@[go_sem] theorem tab_fld52_0 : fldT Tryz.prog 52 0 = some 0 := by kernel_rfl
@[go_sem] theorem tab_fty52_0 : fldTy Tryz.prog 52 0 = some (3, 0) := by kernel_rfl
@[go_sem] theorem tab_pl52_0 : placeT Tryz.prog 52 0 = some (0, 1) := by kernel_rfl
@[go_sem] theorem tab_fld52_1 : fldT Tryz.prog 52 1 = some 1 := by kernel_rfl
@[go_sem] theorem tab_fty52_1 : fldTy Tryz.prog 52 1 = some (3, 1) := by kernel_rfl
@[go_sem] theorem tab_pl52_1 : placeT Tryz.prog 52 1 = some (1, 1) := by kernel_rfl
@[go_sem] theorem tab_fld52_2 : fldT Tryz.prog 52 2 = some 2 := by kernel_rfl
@[go_sem] theorem tab_fty52_2 : fldTy Tryz.prog 52 2 = some (3, 2) := by kernel_rfl
@[go_sem] theorem tab_pl52_2 : placeT Tryz.prog 52 2 = some (2, 1) := by kernel_rfl
@[go_sem] theorem tab_fld52_3 : fldT Tryz.prog 52 3 = some 3 := by kernel_rfl
@[go_sem] theorem tab_fty52_3 : fldTy Tryz.prog 52 3 = some (37, 3) := by kernel_rfl
@[go_sem] theorem tab_pl52_3 : placeT Tryz.prog 52 3 = some (3, 1) := by kernel_rfl
@[go_sem] theorem tab_fld52_4 : fldT Tryz.prog 52 4 = some 4 := by kernel_rfl
@[go_sem] theorem tab_fty52_4 : fldTy Tryz.prog 52 4 = some (45, 4) := by kernel_rfl
@[go_sem] theorem tab_pl52_4 : placeT Tryz.prog 52 4 = some (4, 8) := by kernel_rfl
@[go_sem] theorem tab_fld52_5 : fldT Tryz.prog 52 5 = some 12 := by kernel_rfl
@[go_sem] theorem tab_fty52_5 : fldTy Tryz.prog 52 5 = some (47, 12) := by kernel_rfl
@[go_sem] theorem tab_pl52_5 : placeT Tryz.prog 52 5 = some (12, 3) := by kernel_rfl
@[go_sem] theorem tab_fld52_6 : fldT Tryz.prog 52 6 = some 15 := by kernel_rfl
@[go_sem] theorem tab_fty52_6 : fldTy Tryz.prog 52 6 = some (51, 15) := by kernel_rfl
@[go_sem] theorem tab_pl52_6 : placeT Tryz.prog 52 6 = some (15, 2) := by kernel_rfl
@[go_sem] theorem tab_row53 : rowT Tryz.prog 53 = some true := by kernel_rfl
@[go_sem] theorem tab_size53 : sizeT Tryz.prog 53 = some 17 := by kernel_rfl
@[go_sem] theorem tab_conc53 : Program.concrete Tryz.prog 53 = true := by kernel_rfl
@[go_sem] theorem tab_lay53 : layE Tryz.prog 53 = some (17, 264, [.int .i64 0, .int .i64 0, .int .i64 0, .sl true [], .sl true [], .sl true [], .sl true [], .int .i64 0, .int .u64 0, .int .i64 0, .int .i64 0, .int .i64 0, .int .i64 0, .sl true [], .sl true [], .sl true [], .sl true []]) := by kernel_rfl
@[go_sem] theorem tab_known53 : knownT Tryz.prog 53 = true := by kernel_rfl
@[go_sem] theorem tab_fld53_0 : fldT Tryz.prog 53 0 = some 0 := by kernel_rfl
@[go_sem] theorem tab_fty53_0 : fldTy Tryz.prog 53 0 = some (3, 0) := by kernel_rfl
@[go_sem] theorem tab_pl53_0 : placeT Tryz.prog 53 0 = some (0, 1) := by kernel_rfl
@[go_sem] theorem tab_fld53_1 : fldT Tryz.prog 53 1 = some 1 := by kernel_rfl
@[go_sem] theorem tab_fty53_1 : fldTy Tryz.prog 53 1 = some (3, 1) := by kernel_rfl
@[go_sem] theorem tab_pl53_1 : placeT Tryz.prog 53 1 = some (1, 1) := by kernel_rfl
@[go_sem] theorem tab_fld53_2 : fldT Tryz.prog 53 2 = some 2 := by kernel_rfl
@[go_sem] theorem tab_fty53_2 : fldTy Tryz.prog 53 2 = some (3, 2) := by kernel_rfl
@[go_sem] theorem tab_pl53_2 : placeT Tryz.prog 53 2 = some (2, 1) := by kernel_rfl
@[go_sem] theorem tab_fld53_3 : fldT Tryz.prog 53 3 = some 3 := by kernel_rfl
@[go_sem] theorem tab_fty53_3 : fldTy Tryz.prog 53 3 = some (37, 3) := by kernel_rfl
@[go_sem] theorem tab_pl53_3 : placeT Tryz.prog 53 3 = some (3, 1) := by kernel_rfl
@[go_sem] theorem tab_fld53_4 : fldT Tryz.prog 53 4 = some 4 := by kernel_rfl
@[go_sem] theorem tab_fty53_4 : fldTy Tryz.prog 53 4 = some (45, 4) := by kernel_rfl
@[go_sem] theorem tab_pl53_4 : placeT Tryz.prog 53 4 = some (4, 8) := by kernel_rfl
@[go_sem] theorem tab_fld53_5 : fldT Tryz.prog 53 5 = some 12 := by kernel_rfl
@[go_sem] theorem tab_fty53_5 : fldTy Tryz.prog 53 5 = some (47, 12) := by kernel_rfl
@[go_sem] theorem tab_pl53_5 : placeT Tryz.prog 53 5 = some (12, 3) := by kernel_rfl
@[go_sem] theorem tab_fld53_6 : fldT Tryz.prog 53 6 = some 15 := by kernel_rfl
@[go_sem] theorem tab_fty53_6 : fldTy Tryz.prog 53 6 = some (51, 15) := by kernel_rfl
@[go_sem] theorem tab_pl53_6 : placeT Tryz.prog 53 6 = some (15, 2) := by kernel_rfl
@[go_sem] theorem tab_row54 : rowT Tryz.prog 54 = some true := by kernel_rfl
@[go_sem] theorem tab_size54 : sizeT Tryz.prog 54 = some 38 := by kernel_rfl
@[go_sem] theorem tab_conc54 : Program.concrete Tryz.prog 54 = true := by kernel_rfl
@[go_sem] theorem tab_lay54 : layE Tryz.prog 54 = some (38, 480, [.int .i64 0, .int .i64 0, .int .i64 0, .str ⟨#[]⟩, .int .i64 0, .int .i64 0, .int .i64 0, .int .i64 0, .int .i64 0, .sl true [], .int .i64 0, .int .i64 0, .int .i64 0, .str ⟨#[]⟩, .int .i64 0, .bool false, .int .i64 0, .int .i64 0, .int .i64 0, .int .i64 0, .sl true [], .int .i64 0, .int .i64 0, .int .i64 0, .sl true [], .sl true [], .sl true [], .sl true [], .int .i64 0, .int .u64 0, .int .i64 0, .int .i64 0, .int .i64 0, .int .i64 0, .sl true [], .sl true [], .sl true [], .sl true []]) := by kernel_rfl
@[go_sem] theorem tab_known54 : knownT Tryz.prog 54 = true := by kernel_rfl
@[go_sem] theorem tab_fld54_0 : fldT Tryz.prog 54 0 = some 0 := by kernel_rfl
@[go_sem] theorem tab_fty54_0 : fldTy Tryz.prog 54 0 = some (3, 0) := by kernel_rfl
@[go_sem] theorem tab_pl54_0 : placeT Tryz.prog 54 0 = some (0, 1) := by kernel_rfl
@[go_sem] theorem tab_fld54_1 : fldT Tryz.prog 54 1 = some 1 := by kernel_rfl
@[go_sem] theorem tab_fty54_1 : fldTy Tryz.prog 54 1 = some (3, 1) := by kernel_rfl
@[go_sem] theorem tab_pl54_1 : placeT Tryz.prog 54 1 = some (1, 1) := by kernel_rfl
@[go_sem] theorem tab_fld54_2 : fldT Tryz.prog 54 2 = some 2 := by kernel_rfl
@[go_sem] theorem tab_fty54_2 : fldTy Tryz.prog 54 2 = some (34, 2) := by kernel_rfl
@[go_sem] theorem tab_pl54_2 : placeT Tryz.prog 54 2 = some (2, 10) := by kernel_rfl
@[go_sem] theorem tab_fld54_3 : fldT Tryz.prog 54 3 = some 12 := by kernel_rfl
@[go_sem] theorem tab_fty54_3 : fldTy Tryz.prog 54 3 = some (3, 12) := by kernel_rfl
@[go_sem] theorem tab_pl54_3 : placeT Tryz.prog 54 3 = some (12, 1) := by kernel_rfl
@[go_sem] theorem tab_fld54_4 : fldT Tryz.prog 54 4 = some 13 := by kernel_rfl
@[go_sem] theorem tab_fty54_4 : fldTy Tryz.prog 54 4 = some (9, 13) := by kernel_rfl
@[go_sem] theorem tab_pl54_4 : placeT Tryz.prog 54 4 = some (13, 1) := by kernel_rfl
@[go_sem] theorem tab_fld54_5 : fldT Tryz.prog 54 5 = some 14 := by kernel_rfl
@[go_sem] theorem tab_fty54_5 : fldTy Tryz.prog 54 5 = some (36, 14) := by kernel_rfl
@[go_sem] theorem tab_pl54_5 : placeT Tryz.prog 54 5 = some (14, 7) := by kernel_rfl
@[go_sem] theorem tab_fld54_6 : fldT Tryz.prog 54 6 = some 21 := by kernel_rfl
@[go_sem] theorem tab_fty54_6 : fldTy Tryz.prog 54 6 = some (53, 21) := by kernel_rfl
@[go_sem] theorem tab_pl54_6 : placeT Tryz.prog 54 6 = some (21, 17) := by kernel_rfl
@[go_sem] theorem tab_row55 : rowT Tryz.prog 55 = some true := by kernel_rfl
@[go_sem] theorem tab_size55 : sizeT Tryz.prog 55 = some 38 := by kernel_rfl
@[go_sem] theorem tab_conc55 : Program.concrete Tryz.prog 55 = true := by kernel_rfl
@[go_sem] theorem tab_lay55 : layE Tryz.prog 55 = some (38, 480, [.int .i64 0, .int .i64 0, .int .i64 0, .str ⟨#[]⟩, .int .i64 0, .int .i64 0, .int .i64 0, .int .i64 0, .int .i64 0, .sl true [], .int .i64 0, .int .i64 0, .int .i64 0, .str ⟨#[]⟩, .int .i64 0, .bool false, .int .i64 0, .int .i64 0, .int .i64 0, .int .i64 0, .sl true [], .int .i64 0, .int .i64 0, .int .i64 0, .sl true [], .sl true [], .sl true [], .sl true [], .int .i64 0, .int .u64 0, .int .i64 0, .int .i64 0, .int .i64 0, .int .i64 0, .sl true [], .sl true [], .sl true [], .sl true []]) := by kernel_rfl
@[go_sem] theorem tab_known55 : knownT Tryz.prog 55 = true := by kernel_rfl
@[go_sem] theorem tab_fld55_0 : fldT Tryz.prog 55 0 = some 0 := by kernel_rfl
@[go_sem] theorem tab_fty55_0 : fldTy Tryz.prog 55 0 = some (3, 0) := by kernel_rfl
@[go_sem] theorem tab_pl55_0 : placeT Tryz.prog 55 0 = some (0, 1) := by kernel_rfl
@[go_sem] theorem tab_fld55_1 : fldT Tryz.prog 55 1 = some 1 := by kernel_rfl
@[go_sem] theorem tab_fty55_1 : fldTy Tryz.prog 55 1 = some (3, 1) := by kernel_rfl
@[go_sem] theorem tab_pl55_1 : placeT Tryz.prog 55 1 = some (1, 1) := by kernel_rfl
@[go_sem] theorem tab_fld55_2 : fldT Tryz.prog 55 2 = some 2 := by kernel_rfl
@[go_sem] theorem tab_fty55_2 : fldTy Tryz.prog 55 2 = some (34, 2) := by kernel_rfl
@[go_sem] theorem tab_pl55_2 : placeT Tryz.prog 55 2 = some (2, 10) := by kernel_rfl
@[go_sem] theorem tab_fld55_3 : fldT Tryz.prog 55 3 = some 12 := by kernel_rfl
@[go_sem] theorem tab_fty55_3 : fldTy Tryz.prog 55 3 = some (3, 12) := by kernel_rfl
@[go_sem] theorem tab_pl55_3 : placeT Tryz.prog 55 3 = some (12, 1) := by kernel_rfl
@[go_sem] theorem tab_fld55_4 : fldT Tryz.prog 55 4 = some 13 := by kernel_rfl
@[go_sem] theorem tab_fty55_4 : fldTy Tryz.prog 55 4 = some (9, 13) := by kernel_rfl
@[go_sem] theorem tab_pl55_4 : placeT Tryz.prog 55 4 = some (13, 1) := by kernel_rfl
@[go_sem] theorem tab_fld55_5 : fldT Tryz.prog 55 5 = some 14 := by kernel_rfl
@[go_sem] theorem tab_fty55_5 : fldTy Tryz.prog 55 5 = some (36, 14) := by kernel_rfl
@[go_sem] theorem tab_pl55_5 : placeT Tryz.prog 55 5 = some (14, 7) := by kernel_rfl
@[go_sem] theorem tab_fld55_6 : fldT Tryz.prog 55 6 = some 21 := by kernel_rfl
@[go_sem] theorem tab_fty55_6 : fldTy Tryz.prog 55 6 = some (53, 21) := by kernel_rfl
@[go_sem] theorem tab_pl55_6 : placeT Tryz.prog 55 6 = some (21, 17) := by kernel_rfl
@[go_sem] theorem tab_row57 : rowT Tryz.prog 57 = some false := by kernel_rfl
@[go_sem] theorem tab_size57 : sizeT Tryz.prog 57 = some 1 := by kernel_rfl
@[go_sem] theorem tab_int57 : intT Tryz.prog 57 = some .i64 := by kernel_rfl
@[go_sem] theorem tab_conc57 : Program.concrete Tryz.prog 57 = true := by kernel_rfl
@[go_sem] theorem tab_lay57 : layE Tryz.prog 57 = some (1, 8, [.int .i64 0]) := by kernel_rfl
@[go_sem] theorem tab_row62 : rowT Tryz.prog 62 = some false := by kernel_rfl
@[go_sem] theorem tab_size62 : sizeT Tryz.prog 62 = some 1 := by kernel_rfl
@[go_sem] theorem tab_elem62 : elemT Tryz.prog 62 = some 22 := by kernel_rfl
@[go_sem] theorem tab_k62 : kT Tryz.prog 62 = .sl 22 := by kernel_rfl
@[go_sem] theorem tab_src62 : srcT Tryz.prog 62 = true := by kernel_rfl
@[go_sem] theorem tab_conc62 : Program.concrete Tryz.prog 62 = true := by kernel_rfl
@[go_sem] theorem tab_lay62 : layE Tryz.prog 62 = some (1, 24, [.sl true []]) := by kernel_rfl
@[go_sem] theorem tab_row70 : rowT Tryz.prog 70 = some true := by kernel_rfl
@[go_sem] theorem tab_size70 : sizeT Tryz.prog 70 = some 2 := by kernel_rfl
@[go_sem] theorem tab_conc70 : Program.concrete Tryz.prog 70 = true := by kernel_rfl
@[go_sem] theorem tab_lay70 : layE Tryz.prog 70 = some (2, 32, [.sl true [], .int .i64 0]) := by kernel_rfl
@[go_sem] theorem tab_known70 : knownT Tryz.prog 70 = true := by kernel_rfl
@[go_sem] theorem tab_fld70_0 : fldT Tryz.prog 70 0 = some 0 := by kernel_rfl
@[go_sem] theorem tab_fty70_0 : fldTy Tryz.prog 70 0 = some (22, 0) := by kernel_rfl
@[go_sem] theorem tab_pl70_0 : placeT Tryz.prog 70 0 = some (0, 1) := by kernel_rfl
@[go_sem] theorem tab_fld70_1 : fldT Tryz.prog 70 1 = some 1 := by kernel_rfl
@[go_sem] theorem tab_fty70_1 : fldTy Tryz.prog 70 1 = some (3, 1) := by kernel_rfl
@[go_sem] theorem tab_pl70_1 : placeT Tryz.prog 70 1 = some (1, 1) := by kernel_rfl
@[go_sem] theorem tab_row71 : rowT Tryz.prog 71 = some true := by kernel_rfl
@[go_sem] theorem tab_size71 : sizeT Tryz.prog 71 = some 2 := by kernel_rfl
@[go_sem] theorem tab_conc71 : Program.concrete Tryz.prog 71 = true := by kernel_rfl
@[go_sem] theorem tab_lay71 : layE Tryz.prog 71 = some (2, 32, [.sl true [], .int .i64 0]) := by kernel_rfl
@[go_sem] theorem tab_known71 : knownT Tryz.prog 71 = true := by kernel_rfl
@[go_sem] theorem tab_fld71_0 : fldT Tryz.prog 71 0 = some 0 := by kernel_rfl
@[go_sem] theorem tab_fty71_0 : fldTy Tryz.prog 71 0 = some (22, 0) := by kernel_rfl
@[go_sem] theorem tab_pl71_0 : placeT Tryz.prog 71 0 = some (0, 1) := by kernel_rfl
@[go_sem] theorem tab_fld71_1 : fldT Tryz.prog 71 1 = some 1 := by kernel_rfl
@[go_sem] theorem tab_fty71_1 : fldTy Tryz.prog 71 1 = some (3, 1) := by kernel_rfl
@[go_sem] theorem tab_pl71_1 : placeT Tryz.prog 71 1 = some (1, 1) := by kernel_rfl
@[go_sem] theorem tab_row76 : rowT Tryz.prog 76 = some true := by kernel_rfl
@[go_sem] theorem tab_size76 : sizeT Tryz.prog 76 = some 2 := by kernel_rfl
@[go_sem] theorem tab_conc76 : Program.concrete Tryz.prog 76 = true := by kernel_rfl
@[go_sem] theorem tab_lay76 : layE Tryz.prog 76 = some (2, 16, [.int .i64 0, .int .i64 0]) := by kernel_rfl
@[go_sem] theorem tab_known76 : knownT Tryz.prog 76 = true := by kernel_rfl
@[go_sem] theorem tab_fld76_0 : fldT Tryz.prog 76 0 = some 0 := by kernel_rfl
@[go_sem] theorem tab_fty76_0 : fldTy Tryz.prog 76 0 = some (3, 0) := by kernel_rfl
@[go_sem] theorem tab_pl76_0 : placeT Tryz.prog 76 0 = some (0, 1) := by kernel_rfl
@[go_sem] theorem tab_fld76_1 : fldT Tryz.prog 76 1 = some 1 := by kernel_rfl
@[go_sem] theorem tab_fty76_1 : fldTy Tryz.prog 76 1 = some (3, 1) := by kernel_rfl
@[go_sem] theorem tab_pl76_1 : placeT Tryz.prog 76 1 = some (1, 1) := by kernel_rfl
@[go_sem] theorem tab_row77 : rowT Tryz.prog 77 = some true := by kernel_rfl
@[go_sem] theorem tab_size77 : sizeT Tryz.prog 77 = some 2 := by kernel_rfl
@[go_sem] theorem tab_conc77 : Program.concrete Tryz.prog 77 = true := by kernel_rfl
@[go_sem] theorem tab_lay77 : layE Tryz.prog 77 = some (2, 16, [.int .i64 0, .int .i64 0]) := by kernel_rfl
@[go_sem] theorem tab_known77 : knownT Tryz.prog 77 = true := by kernel_rfl
@[go_sem] theorem tab_fld77_0 : fldT Tryz.prog 77 0 = some 0 := by kernel_rfl
@[go_sem] theorem tab_fty77_0 : fldTy Tryz.prog 77 0 = some (3, 0) := by kernel_rfl
@[go_sem] theorem tab_pl77_0 : placeT Tryz.prog 77 0 = some (0, 1) := by kernel_rfl
@[go_sem] theorem tab_fld77_1 : fldT Tryz.prog 77 1 = some 1 := by kernel_rfl
@[go_sem] theorem tab_fty77_1 : fldTy Tryz.prog 77 1 = some (3, 1) := by kernel_rfl
@[go_sem] theorem tab_pl77_1 : placeT Tryz.prog 77 1 = some (1, 1) := by kernel_rfl
@[go_sem] theorem tab_cells77 : cellsT Tryz.prog 77 = some [3, 3] := by kernel_rfl
@[go_sem] theorem tab_row82 : rowT Tryz.prog 82 = some false := by kernel_rfl
@[go_sem] theorem tab_size82 : sizeT Tryz.prog 82 = some 1 := by kernel_rfl
@[go_sem] theorem tab_ptr82 : isPtrT Tryz.prog 82 = true := by kernel_rfl
@[go_sem] theorem tab_conc82 : Program.concrete Tryz.prog 82 = true := by kernel_rfl
@[go_sem] theorem tab_lay82 : layE Tryz.prog 82 = some (1, 8, [.nilp]) := by kernel_rfl
@[go_sem] theorem tab_row83 : rowT Tryz.prog 83 = some true := by kernel_rfl
@[go_sem] theorem tab_size83 : sizeT Tryz.prog 83 = some 1 := by kernel_rfl
@[go_sem] theorem tab_conc83 : Program.concrete Tryz.prog 83 = true := by kernel_rfl
@[go_sem] theorem tab_lay83 : layE Tryz.prog 83 = some (1, 24, [.sl true []]) := by kernel_rfl
@[go_sem] theorem tab_known83 : knownT Tryz.prog 83 = true := by kernel_rfl
@[go_sem] theorem tab_fld83_0 : fldT Tryz.prog 83 0 = some 0 := by kernel_rfl
@[go_sem] theorem tab_fty83_0 : fldTy Tryz.prog 83 0 = some (22, 0) := by kernel_rfl
@[go_sem] theorem tab_pl83_0 : placeT Tryz.prog 83 0 = some (0, 1) := by kernel_rfl
@[go_sem] theorem tab_row84 : rowT Tryz.prog 84 = some true := by kernel_rfl
@[go_sem] theorem tab_size84 : sizeT Tryz.prog 84 = some 1 := by kernel_rfl
@[go_sem] theorem tab_conc84 : Program.concrete Tryz.prog 84 = true := by kernel_rfl
@[go_sem] theorem tab_lay84 : layE Tryz.prog 84 = some (1, 24, [.sl true []]) := by kernel_rfl
@[go_sem] theorem tab_known84 : knownT Tryz.prog 84 = true := by kernel_rfl
@[go_sem] theorem tab_fld84_0 : fldT Tryz.prog 84 0 = some 0 := by kernel_rfl
@[go_sem] theorem tab_fty84_0 : fldTy Tryz.prog 84 0 = some (22, 0) := by kernel_rfl
@[go_sem] theorem tab_pl84_0 : placeT Tryz.prog 84 0 = some (0, 1) := by kernel_rfl
@[go_sem] theorem tab_row86 : rowT Tryz.prog 86 = some false := by kernel_rfl
@[go_sem] theorem tab_size86 : sizeT Tryz.prog 86 = some 1 := by kernel_rfl
@[go_sem] theorem tab_ptr86 : isPtrT Tryz.prog 86 = true := by kernel_rfl
@[go_sem] theorem tab_conc86 : Program.concrete Tryz.prog 86 = true := by kernel_rfl
@[go_sem] theorem tab_lay86 : layE Tryz.prog 86 = some (1, 8, [.nilp]) := by kernel_rfl
@[go_sem] theorem tab_row90 : rowT Tryz.prog 90 = some false := by kernel_rfl
@[go_sem] theorem tab_size90 : sizeT Tryz.prog 90 = some 1 := by kernel_rfl
@[go_sem] theorem tab_ptr90 : isPtrT Tryz.prog 90 = true := by kernel_rfl
@[go_sem] theorem tab_conc90 : Program.concrete Tryz.prog 90 = true := by kernel_rfl
@[go_sem] theorem tab_lay90 : layE Tryz.prog 90 = some (1, 8, [.nilp]) := by kernel_rfl
@[go_sem] theorem tab_row91 : rowT Tryz.prog 91 = some true := by kernel_rfl
@[go_sem] theorem tab_size91 : sizeT Tryz.prog 91 = some 2 := by kernel_rfl
@[go_sem] theorem tab_conc91 : Program.concrete Tryz.prog 91 = true := by kernel_rfl
@[go_sem] theorem tab_lay91 : layE Tryz.prog 91 = some (2, 32, [.sl true [], .bool false]) := by kernel_rfl
@[go_sem] theorem tab_known91 : knownT Tryz.prog 91 = true := by kernel_rfl
@[go_sem] theorem tab_fld91_0 : fldT Tryz.prog 91 0 = some 0 := by kernel_rfl
@[go_sem] theorem tab_fty91_0 : fldTy Tryz.prog 91 0 = some (22, 0) := by kernel_rfl
@[go_sem] theorem tab_pl91_0 : placeT Tryz.prog 91 0 = some (0, 1) := by kernel_rfl
@[go_sem] theorem tab_fld91_1 : fldT Tryz.prog 91 1 = some 1 := by kernel_rfl
@[go_sem] theorem tab_fty91_1 : fldTy Tryz.prog 91 1 = some (4, 1) := by kernel_rfl
@[go_sem] theorem tab_pl91_1 : placeT Tryz.prog 91 1 = some (1, 1) := by kernel_rfl
@[go_sem] theorem tab_row92 : rowT Tryz.prog 92 = some true := by kernel_rfl
@[go_sem] theorem tab_size92 : sizeT Tryz.prog 92 = some 2 := by kernel_rfl
@[go_sem] theorem tab_conc92 : Program.concrete Tryz.prog 92 = true := by kernel_rfl
@[go_sem] theorem tab_lay92 : layE Tryz.prog 92 = some (2, 32, [.sl true [], .bool false]) := by kernel_rfl
@[go_sem] theorem tab_known92 : knownT Tryz.prog 92 = true := by kernel_rfl
@[go_sem] theorem tab_fld92_0 : fldT Tryz.prog 92 0 = some 0 := by kernel_rfl
@[go_sem] theorem tab_fty92_0 : fldTy Tryz.prog 92 0 = some (22, 0) := by kernel_rfl
@[go_sem] theorem tab_pl92_0 : placeT Tryz.prog 92 0 = some (0, 1) := by kernel_rfl
@[go_sem] theorem tab_fld92_1 : fldT Tryz.prog 92 1 = some 1 := by kernel_rfl
@[go_sem] theorem tab_fty92_1 : fldTy Tryz.prog 92 1 = some (4, 1) := by kernel_rfl
@[go_sem] theorem tab_pl92_1 : placeT Tryz.prog 92 1 = some (1, 1) := by kernel_rfl
@[go_sem] theorem tab_row95 : rowT Tryz.prog 95 = some false := by kernel_rfl
@[go_sem] theorem tab_size95 : sizeT Tryz.prog 95 = some 1 := by kernel_rfl
@[go_sem] theorem tab_elem95 : elemT Tryz.prog 95 = some 97 := by kernel_rfl
@[go_sem] theorem tab_k95 : kT Tryz.prog 95 = .sl 97 := by kernel_rfl
@[go_sem] theorem tab_src95 : srcT Tryz.prog 95 = true := by kernel_rfl
@[go_sem] theorem tab_conc95 : Program.concrete Tryz.prog 95 = true := by kernel_rfl
@[go_sem] theorem tab_lay95 : layE Tryz.prog 95 = some (1, 24, [.sl true []]) := by kernel_rfl
@[go_sem] theorem tab_row96 : rowT Tryz.prog 96 = some true := by kernel_rfl
@[go_sem] theorem tab_size96 : sizeT Tryz.prog 96 = some 3 := by kernel_rfl
@[go_sem] theorem tab_conc96 : Program.concrete Tryz.prog 96 = true := by kernel_rfl
@[go_sem] theorem tab_lay96 : layE Tryz.prog 96 = some (3, 32, [.str ⟨#[]⟩, .int .i64 0, .int .i64 0]) := by kernel_rfl
@[go_sem] theorem tab_known96 : knownT Tryz.prog 96 = true := by kernel_rfl
@[go_sem] theorem tab_fld96_0 : fldT Tryz.prog 96 0 = some 0 := by kernel_rfl
@[go_sem] theorem tab_fty96_0 : fldTy Tryz.prog 96 0 = some (9, 0) := by kernel_rfl
@[go_sem] theorem tab_pl96_0 : placeT Tryz.prog 96 0 = some (0, 1) := by kernel_rfl
@[go_sem] theorem tab_fld96_1 : fldT Tryz.prog 96 1 = some 1 := by kernel_rfl
@[go_sem] theorem tab_fty96_1 : fldTy Tryz.prog 96 1 = some (3, 1) := by kernel_rfl
@[go_sem] theorem tab_pl96_1 : placeT Tryz.prog 96 1 = some (1, 1) := by kernel_rfl
@[go_sem] theorem tab_fld96_2 : fldT Tryz.prog 96 2 = some 2 := by kernel_rfl
@[go_sem] theorem tab_fty96_2 : fldTy Tryz.prog 96 2 = some (3, 2) := by kernel_rfl
@[go_sem] theorem tab_pl96_2 : placeT Tryz.prog 96 2 = some (2, 1) := by kernel_rfl
@[go_sem] theorem tab_row97 : rowT Tryz.prog 97 = some true := by kernel_rfl
@[go_sem] theorem tab_size97 : sizeT Tryz.prog 97 = some 3 := by kernel_rfl
@[go_sem] theorem tab_conc97 : Program.concrete Tryz.prog 97 = true := by kernel_rfl
@[go_sem] theorem tab_lay97 : layE Tryz.prog 97 = some (3, 32, [.str ⟨#[]⟩, .int .i64 0, .int .i64 0]) := by kernel_rfl
@[go_sem] theorem tab_known97 : knownT Tryz.prog 97 = true := by kernel_rfl
@[go_sem] theorem tab_fld97_0 : fldT Tryz.prog 97 0 = some 0 := by kernel_rfl
@[go_sem] theorem tab_fty97_0 : fldTy Tryz.prog 97 0 = some (9, 0) := by kernel_rfl
@[go_sem] theorem tab_pl97_0 : placeT Tryz.prog 97 0 = some (0, 1) := by kernel_rfl
@[go_sem] theorem tab_fld97_1 : fldT Tryz.prog 97 1 = some 1 := by kernel_rfl
@[go_sem] theorem tab_fty97_1 : fldTy Tryz.prog 97 1 = some (3, 1) := by kernel_rfl
@[go_sem] theorem tab_pl97_1 : placeT Tryz.prog 97 1 = some (1, 1) := by kernel_rfl
@[go_sem] theorem tab_fld97_2 : fldT Tryz.prog 97 2 = some 2 := by kernel_rfl
@[go_sem] theorem tab_fty97_2 : fldTy Tryz.prog 97 2 = some (3, 2) := by kernel_rfl
@[go_sem] theorem tab_pl97_2 : placeT Tryz.prog 97 2 = some (2, 1) := by kernel_rfl
@[go_sem] theorem tab_cells97 : cellsT Tryz.prog 97 = some [9, 3, 3] := by kernel_rfl
@[go_sem] theorem tab_row98 : rowT Tryz.prog 98 = some true := by kernel_rfl
@[go_sem] theorem tab_size98 : sizeT Tryz.prog 98 = some 3 := by kernel_rfl
@[go_sem] theorem tab_conc98 : Program.concrete Tryz.prog 98 = true := by kernel_rfl
@[go_sem] theorem tab_lay98 : layE Tryz.prog 98 = some (3, 40, [.sl true [], .int .i64 0, .bool false]) := by kernel_rfl
@[go_sem] theorem tab_known98 : knownT Tryz.prog 98 = true := by kernel_rfl
@[go_sem] theorem tab_fld98_0 : fldT Tryz.prog 98 0 = some 0 := by kernel_rfl
@[go_sem] theorem tab_fty98_0 : fldTy Tryz.prog 98 0 = some (22, 0) := by kernel_rfl
@[go_sem] theorem tab_pl98_0 : placeT Tryz.prog 98 0 = some (0, 1) := by kernel_rfl
@[go_sem] theorem tab_fld98_1 : fldT Tryz.prog 98 1 = some 1 := by kernel_rfl
@[go_sem] theorem tab_fty98_1 : fldTy Tryz.prog 98 1 = some (3, 1) := by kernel_rfl
@[go_sem] theorem tab_pl98_1 : placeT Tryz.prog 98 1 = some (1, 1) := by kernel_rfl
@[go_sem] theorem tab_fld98_2 : fldT Tryz.prog 98 2 = some 2 := by kernel_rfl
@[go_sem] theorem tab_fty98_2 : fldTy Tryz.prog 98 2 = some (4, 2) := by kernel_rfl
@[go_sem] theorem tab_pl98_2 : placeT Tryz.prog 98 2 = some (2, 1) := by kernel_rfl
@[go_sem] theorem tab_row99 : rowT Tryz.prog 99 = some true := by kernel_rfl
@[go_sem] theorem tab_size99 : sizeT Tryz.prog 99 = some 3 := by kernel_rfl
@[go_sem] theorem tab_conc99 : Program.concrete Tryz.prog 99 = true := by kernel_rfl
@[go_sem] theorem tab_lay99 : layE Tryz.prog 99 = some (3, 40, [.sl true [], .int .i64 0, .bool false]) := by kernel_rfl
@[go_sem] theorem tab_known99 : knownT Tryz.prog 99 = true := by kernel_rfl
@[go_sem] theorem tab_fld99_0 : fldT Tryz.prog 99 0 = some 0 := by kernel_rfl
@[go_sem] theorem tab_fty99_0 : fldTy Tryz.prog 99 0 = some (22, 0) := by kernel_rfl
@[go_sem] theorem tab_pl99_0 : placeT Tryz.prog 99 0 = some (0, 1) := by kernel_rfl
@[go_sem] theorem tab_fld99_1 : fldT Tryz.prog 99 1 = some 1 := by kernel_rfl
@[go_sem] theorem tab_fty99_1 : fldTy Tryz.prog 99 1 = some (3, 1) := by kernel_rfl
@[go_sem] theorem tab_pl99_1 : placeT Tryz.prog 99 1 = some (1, 1) := by kernel_rfl
@[go_sem] theorem tab_fld99_2 : fldT Tryz.prog 99 2 = some 2 := by kernel_rfl
@[go_sem] theorem tab_fty99_2 : fldTy Tryz.prog 99 2 = some (4, 2) := by kernel_rfl
@[go_sem] theorem tab_pl99_2 : placeT Tryz.prog 99 2 = some (2, 1) := by kernel_rfl
@[go_sem] theorem tab_row111 : rowT Tryz.prog 111 = some false := by kernel_rfl
@[go_sem] theorem tab_size111 : sizeT Tryz.prog 111 = some 1 := by kernel_rfl
@[go_sem] theorem tab_lay111 : layE Tryz.prog 111 = some (1, 16, [.nili]) := by kernel_rfl
@[go_sem] theorem tab_row112 : rowT Tryz.prog 112 = some false := by kernel_rfl
@[go_sem] theorem tab_size112 : sizeT Tryz.prog 112 = some 1 := by kernel_rfl
@[go_sem] theorem tab_lay112 : layE Tryz.prog 112 = some (1, 16, [.nili]) := by kernel_rfl
@[go_sem] theorem tab_row114 : rowT Tryz.prog 114 = some false := by kernel_rfl
@[go_sem] theorem tab_size114 : sizeT Tryz.prog 114 = some 1 := by kernel_rfl
@[go_sem] theorem tab_ptr114 : isPtrT Tryz.prog 114 = true := by kernel_rfl
@[go_sem] theorem tab_conc114 : Program.concrete Tryz.prog 114 = true := by kernel_rfl
@[go_sem] theorem tab_lay114 : layE Tryz.prog 114 = some (1, 8, [.nilp]) := by kernel_rfl
@[go_sem] theorem tab_row116 : rowT Tryz.prog 116 = some false := by kernel_rfl
@[go_sem] theorem tab_size116 : sizeT Tryz.prog 116 = some 1 := by kernel_rfl
@[go_sem] theorem tab_ptr116 : isPtrT Tryz.prog 116 = true := by kernel_rfl
@[go_sem] theorem tab_conc116 : Program.concrete Tryz.prog 116 = true := by kernel_rfl
@[go_sem] theorem tab_lay116 : layE Tryz.prog 116 = some (1, 8, [.nilp]) := by kernel_rfl
@[go_sem] theorem tab_row118 : rowT Tryz.prog 118 = some false := by kernel_rfl
@[go_sem] theorem tab_size118 : sizeT Tryz.prog 118 = some 1 := by kernel_rfl
@[go_sem] theorem tab_ptr118 : isPtrT Tryz.prog 118 = true := by kernel_rfl
@[go_sem] theorem tab_conc118 : Program.concrete Tryz.prog 118 = true := by kernel_rfl
@[go_sem] theorem tab_lay118 : layE Tryz.prog 118 = some (1, 8, [.nilp]) := by kernel_rfl
@[go_sem] theorem tab_row120 : rowT Tryz.prog 120 = some false := by kernel_rfl
@[go_sem] theorem tab_size120 : sizeT Tryz.prog 120 = some 1 := by kernel_rfl
@[go_sem] theorem tab_ptr120 : isPtrT Tryz.prog 120 = true := by kernel_rfl
@[go_sem] theorem tab_conc120 : Program.concrete Tryz.prog 120 = true := by kernel_rfl
@[go_sem] theorem tab_lay120 : layE Tryz.prog 120 = some (1, 8, [.nilp]) := by kernel_rfl
@[go_sem] theorem tab_row122 : rowT Tryz.prog 122 = some false := by kernel_rfl
@[go_sem] theorem tab_size122 : sizeT Tryz.prog 122 = some 1 := by kernel_rfl
@[go_sem] theorem tab_ptr122 : isPtrT Tryz.prog 122 = true := by kernel_rfl
@[go_sem] theorem tab_conc122 : Program.concrete Tryz.prog 122 = true := by kernel_rfl
@[go_sem] theorem tab_lay122 : layE Tryz.prog 122 = some (1, 8, [.nilp]) := by kernel_rfl
@[go_sem] theorem tab_row123 : rowT Tryz.prog 123 = some false := by kernel_rfl
@[go_sem] theorem tab_size123 : sizeT Tryz.prog 123 = some 1 := by kernel_rfl
@[go_sem] theorem tab_int123 : intT Tryz.prog 123 = some .u64 := by kernel_rfl
@[go_sem] theorem tab_conc123 : Program.concrete Tryz.prog 123 = true := by kernel_rfl
@[go_sem] theorem tab_lay123 : layE Tryz.prog 123 = some (1, 8, [.int .u64 0]) := by kernel_rfl
@[go_sem] theorem tab_row124 : rowT Tryz.prog 124 = some false := by kernel_rfl
@[go_sem] theorem tab_size124 : sizeT Tryz.prog 124 = some 1 := by kernel_rfl
@[go_sem] theorem tab_elem124 : elemT Tryz.prog 124 = some 167 := by kernel_rfl
@[go_sem] theorem tab_k124 : kT Tryz.prog 124 = .sl 167 := by kernel_rfl
@[go_sem] theorem tab_src124 : srcT Tryz.prog 124 = true := by kernel_rfl
@[go_sem] theorem tab_conc124 : Program.concrete Tryz.prog 124 = true := by kernel_rfl
@[go_sem] theorem tab_lay124 : layE Tryz.prog 124 = some (1, 24, [.sl true []]) := by kernel_rfl
@[go_sem] theorem tab_row141 : rowT Tryz.prog 141 = some false := by kernel_rfl
@[go_sem] theorem tab_size141 : sizeT Tryz.prog 141 = some 1 := by kernel_rfl
@[go_sem] theorem tab_conc141 : Program.concrete Tryz.prog 141 = true := by kernel_rfl
@[go_sem] theorem tab_lay141 : layE Tryz.prog 141 = some (1, 8, [.nilf]) := by kernel_rfl
@[go_sem] theorem tab_row142 : rowT Tryz.prog 142 = some false := by kernel_rfl
@[go_sem] theorem tab_size142 : sizeT Tryz.prog 142 = some 1 := by kernel_rfl
@[go_sem] theorem tab_ptr142 : isPtrT Tryz.prog 142 = true := by kernel_rfl
@[go_sem] theorem tab_conc142 : Program.concrete Tryz.prog 142 = true := by kernel_rfl
@[go_sem] theorem tab_lay142 : layE Tryz.prog 142 = some (1, 8, [.nilp]) := by kernel_rfl
@[go_sem] theorem tab_row145 : rowT Tryz.prog 145 = some false := by kernel_rfl
@[go_sem] theorem tab_size145 : sizeT Tryz.prog 145 = some 1 := by kernel_rfl
@[go_sem] theorem tab_ptr145 : isPtrT Tryz.prog 145 = true := by kernel_rfl
@[go_sem] theorem tab_conc145 : Program.concrete Tryz.prog 145 = true := by kernel_rfl
@[go_sem] theorem tab_lay145 : layE Tryz.prog 145 = some (1, 8, [.nilp]) := by kernel_rfl
@[go_sem] theorem tab_row147 : rowT Tryz.prog 147 = some false := by kernel_rfl
@[go_sem] theorem tab_size147 : sizeT Tryz.prog 147 = some 1 := by kernel_rfl
@[go_sem] theorem tab_ptr147 : isPtrT Tryz.prog 147 = true := by kernel_rfl
@[go_sem] theorem tab_conc147 : Program.concrete Tryz.prog 147 = true := by kernel_rfl
@[go_sem] theorem tab_lay147 : layE Tryz.prog 147 = some (1, 8, [.nilp]) := by kernel_rfl
@[go_sem] theorem tab_row149 : rowT Tryz.prog 149 = some false := by kernel_rfl
@[go_sem] theorem tab_size149 : sizeT Tryz.prog 149 = some 1 := by kernel_rfl
@[go_sem] theorem tab_ptr149 : isPtrT Tryz.prog 149 = true := by kernel_rfl
@[go_sem] theorem tab_conc149 : Program.concrete Tryz.prog 149 = true := by kernel_rfl
@[go_sem] theorem tab_lay149 : layE Tryz.prog 149 = some (1, 8, [.nilp]) := by kernel_rfl
@[go_sem] theorem tab_row150 : rowT Tryz.prog 150 = some false := by kernel_rfl
@[go_sem] theorem tab_size150 : sizeT Tryz.prog 150 = some 1 := by kernel_rfl
@[go_sem] theorem tab_conc150 : Program.concrete Tryz.prog 150 = true := by kernel_rfl
@[go_sem] theorem tab_lay150 : layE Tryz.prog 150 = some (1, 8, [.nilf]) := by kernel_rfl
@[go_sem] theorem tab_row152 : rowT Tryz.prog 152 = some false := by kernel_rfl
@[go_sem] theorem tab_size152 : sizeT Tryz.prog 152 = some 1 := by kernel_rfl
@[go_sem] theorem tab_ptr152 : isPtrT Tryz.prog 152 = true := by kernel_rfl
@[go_sem] theorem tab_conc152 : Program.concrete Tryz.prog 152 = true := by kernel_rfl
@[go_sem] theorem tab_lay152 : layE Tryz.prog 152 = some (1, 8, [.nilp]) := by kernel_rfl
@[go_sem] theorem tab_row154 : rowT Tryz.prog 154 = some false := by kernel_rfl
@[go_sem] theorem tab_size154 : sizeT Tryz.prog 154 = some 1 := by kernel_rfl
@[go_sem] theorem tab_ptr154 : isPtrT Tryz.prog 154 = true := by kernel_rfl
@[go_sem] theorem tab_conc154 : Program.concrete Tryz.prog 154 = true := by kernel_rfl
@[go_sem] theorem tab_lay154 : layE Tryz.prog 154 = some (1, 8, [.nilp]) := by kernel_rfl
@[go_sem] theorem tab_row156 : rowT Tryz.prog 156 = some false := by kernel_rfl
@[go_sem] theorem tab_size156 : sizeT Tryz.prog 156 = some 1 := by kernel_rfl
@[go_sem] theorem tab_ptr156 : isPtrT Tryz.prog 156 = true := by kernel_rfl
@[go_sem] theorem tab_conc156 : Program.concrete Tryz.prog 156 = true := by kernel_rfl
@[go_sem] theorem tab_lay156 : layE Tryz.prog 156 = some (1, 8, [.nilp]) := by kernel_rfl
@[go_sem] theorem tab_row157 : rowT Tryz.prog 157 = some false := by kernel_rfl
@[go_sem] theorem tab_size157 : sizeT Tryz.prog 157 = some 1 := by kernel_rfl
@[go_sem] theorem tab_conc157 : Program.concrete Tryz.prog 157 = true := by kernel_rfl
@[go_sem] theorem tab_lay157 : layE Tryz.prog 157 = some (1, 8, [.nilf]) := by kernel_rfl
@[go_sem] theorem tab_row159 : rowT Tryz.prog 159 = some false := by kernel_rfl
@[go_sem] theorem tab_size159 : sizeT Tryz.prog 159 = some 1 := by kernel_rfl
@[go_sem] theorem tab_ptr159 : isPtrT Tryz.prog 159 = true := by kernel_rfl
@[go_sem] theorem tab_conc159 : Program.concrete Tryz.prog 159 = true := by kernel_rfl
@[go_sem] theorem tab_lay159 : layE Tryz.prog 159 = some (1, 8, [.nilp]) := by kernel_rfl
@[go_sem] theorem tab_row160 : rowT Tryz.prog 160 = some false := by kernel_rfl
@[go_sem] theorem tab_size160 : sizeT Tryz.prog 160 = some 1 := by kernel_rfl
@[go_sem] theorem tab_conc160 : Program.concrete Tryz.prog 160 = true := by kernel_rfl
@[go_sem] theorem tab_lay160 : layE Tryz.prog 160 = some (1, 8, [.nilf]) := by kernel_rfl
@[go_sem] theorem tab_row162 : rowT Tryz.prog 162 = some false := by kernel_rfl
@[go_sem] theorem tab_size162 : sizeT Tryz.prog 162 = some 1 := by kernel_rfl
@[go_sem] theorem tab_ptr162 : isPtrT Tryz.prog 162 = true := by kernel_rfl
@[go_sem] theorem tab_conc162 : Program.concrete Tryz.prog 162 = true := by kernel_rfl
@[go_sem] theorem tab_lay162 : layE Tryz.prog 162 = some (1, 8, [.nilp]) := by kernel_rfl
@[go_sem] theorem tab_row163 : rowT Tryz.prog 163 = some false := by kernel_rfl
@[go_sem] theorem tab_size163 : sizeT Tryz.prog 163 = some 1 := by kernel_rfl
@[go_sem] theorem tab_conc163 : Program.concrete Tryz.prog 163 = true := by kernel_rfl
@[go_sem] theorem tab_lay163 : layE Tryz.prog 163 = some (1, 8, [.nilf]) := by kernel_rfl
@[go_sem] theorem tab_row164 : rowT Tryz.prog 164 = some false := by kernel_rfl
@[go_sem] theorem tab_size164 : sizeT Tryz.prog 164 = some 1 := by kernel_rfl
@[go_sem] theorem tab_elem164 : elemT Tryz.prog 164 = some 38 := by kernel_rfl
@[go_sem] theorem tab_k164 : kT Tryz.prog 164 = .sl 38 := by kernel_rfl
@[go_sem] theorem tab_src164 : srcT Tryz.prog 164 = true := by kernel_rfl
@[go_sem] theorem tab_conc164 : Program.concrete Tryz.prog 164 = true := by kernel_rfl
@[go_sem] theorem tab_lay164 : layE Tryz.prog 164 = some (1, 24, [.sl true []]) := by kernel_rfl
@[go_sem] theorem tab_row166 : rowT Tryz.prog 166 = some true := by kernel_rfl
@[go_sem] theorem tab_size166 : sizeT Tryz.prog 166 = some 2 := by kernel_rfl
@[go_sem] theorem tab_conc166 : Program.concrete Tryz.prog 166 = true := by kernel_rfl
@[go_sem] theorem tab_lay166 : layE Tryz.prog 166 = some (2, 16, [.int .i64 0, .int .i64 0]) := by kernel_rfl
@[go_sem] theorem tab_known166 : knownT Tryz.prog 166 = true := by kernel_rfl
@[go_sem] theorem tab_fld166_0 : fldT Tryz.prog 166 0 = some 0 := by kernel_rfl
@[go_sem] theorem tab_fty166_0 : fldTy Tryz.prog 166 0 = some (3, 0) := by kernel_rfl
@[go_sem] theorem tab_pl166_0 : placeT Tryz.prog 166 0 = some (0, 1) := by kernel_rfl
@[go_sem] theorem tab_fld166_1 : fldT Tryz.prog 166 1 = some 1 := by kernel_rfl
@[go_sem] theorem tab_fty166_1 : fldTy Tryz.prog 166 1 = some (3, 1) := by kernel_rfl
@[go_sem] theorem tab_pl166_1 : placeT Tryz.prog 166 1 = some (1, 1) := by kernel_rfl
@[go_sem] theorem tab_row167 : rowT Tryz.prog 167 = some true := by kernel_rfl
@[go_sem] theorem tab_size167 : sizeT Tryz.prog 167 = some 2 := by kernel_rfl
@[go_sem] theorem tab_conc167 : Program.concrete Tryz.prog 167 = true := by kernel_rfl
@[go_sem] theorem tab_lay167 : layE Tryz.prog 167 = some (2, 16, [.int .i64 0, .int .i64 0]) := by kernel_rfl
@[go_sem] theorem tab_known167 : knownT Tryz.prog 167 = true := by kernel_rfl
@[go_sem] theorem tab_fld167_0 : fldT Tryz.prog 167 0 = some 0 := by kernel_rfl
@[go_sem] theorem tab_fty167_0 : fldTy Tryz.prog 167 0 = some (3, 0) := by kernel_rfl
@[go_sem] theorem tab_pl167_0 : placeT Tryz.prog 167 0 = some (0, 1) := by kernel_rfl
@[go_sem] theorem tab_fld167_1 : fldT Tryz.prog 167 1 = some 1 := by kernel_rfl
@[go_sem] theorem tab_fty167_1 : fldTy Tryz.prog 167 1 = some (3, 1) := by kernel_rfl
@[go_sem] theorem tab_pl167_1 : placeT Tryz.prog 167 1 = some (1, 1) := by kernel_rfl
@[go_sem] theorem tab_cells167 : cellsT Tryz.prog 167 = some [3, 3] := by kernel_rfl
@[go_sem] theorem tab_row179 : rowT Tryz.prog 179 = some false := by kernel_rfl
@[go_sem] theorem tab_size179 : sizeT Tryz.prog 179 = some 1 := by kernel_rfl
@[go_sem] theorem tab_elem179 : elemT Tryz.prog 179 = some 114 := by kernel_rfl
@[go_sem] theorem tab_k179 : kT Tryz.prog 179 = .sl 114 := by kernel_rfl
@[go_sem] theorem tab_src179 : srcT Tryz.prog 179 = true := by kernel_rfl
@[go_sem] theorem tab_conc179 : Program.concrete Tryz.prog 179 = true := by kernel_rfl
@[go_sem] theorem tab_lay179 : layE Tryz.prog 179 = some (1, 24, [.sl true []]) := by kernel_rfl
@[go_sem] theorem tab_row180 : rowT Tryz.prog 180 = some false := by kernel_rfl
@[go_sem] theorem tab_size180 : sizeT Tryz.prog 180 = some 1 := by kernel_rfl
@[go_sem] theorem tab_ptr180 : isPtrT Tryz.prog 180 = true := by kernel_rfl
@[go_sem] theorem tab_conc180 : Program.concrete Tryz.prog 180 = true := by kernel_rfl
@[go_sem] theorem tab_lay180 : layE Tryz.prog 180 = some (1, 8, [.nilp]) := by kernel_rfl
@[go_sem] theorem tab_row182 : rowT Tryz.prog 182 = some false := by kernel_rfl
@[go_sem] theorem tab_size182 : sizeT Tryz.prog 182 = some 1 := by kernel_rfl
@[go_sem] theorem tab_ptr182 : isPtrT Tryz.prog 182 = true := by kernel_rfl
@[go_sem] theorem tab_conc182 : Program.concrete Tryz.prog 182 = true := by kernel_rfl
@[go_sem] theorem tab_lay182 : layE Tryz.prog 182 = some (1, 8, [.nilp]) := by kernel_rfl
@[go_sem] theorem tab_row183 : rowT Tryz.prog 183 = some false := by kernel_rfl
@[go_sem] theorem tab_size183 : sizeT Tryz.prog 183 = some 1 := by kernel_rfl
@[go_sem] theorem tab_ptr183 : isPtrT Tryz.prog 183 = true := by kernel_rfl
@[go_sem] theorem tab_conc183 : Program.concrete Tryz.prog 183 = true := by kernel_rfl
@[go_sem] theorem tab_lay183 : layE Tryz.prog 183 = some (1, 8, [.nilp]) := by kernel_rfl
@[go_sem] theorem tab_row185 : rowT Tryz.prog 185 = some false := by kernel_rfl
@[go_sem] theorem tab_size185 : sizeT Tryz.prog 185 = some 1 := by kernel_rfl
@[go_sem] theorem tab_conc185 : Program.concrete Tryz.prog 185 = true := by kernel_rfl
@[go_sem] theorem tab_lay185 : layE Tryz.prog 185 = some (1, 8, [.nilf]) := by kernel_rfl
@[go_sem] theorem tab_row186 : rowT Tryz.prog 186 = some false := by kernel_rfl
@[go_sem] theorem tab_size186 : sizeT Tryz.prog 186 = some 1 := by kernel_rfl
@[go_sem] theorem tab_elem186 : elemT Tryz.prog 186 = some 190 := by kernel_rfl
@[go_sem] theorem tab_k186 : kT Tryz.prog 186 = .sl 190 := by kernel_rfl
@[go_sem] theorem tab_src186 : srcT Tryz.prog 186 = true := by kernel_rfl
@[go_sem] theorem tab_conc186 : Program.concrete Tryz.prog 186 = true := by kernel_rfl
@[go_sem] theorem tab_lay186 : layE Tryz.prog 186 = some (1, 24, [.sl true []]) := by kernel_rfl
@[go_sem] theorem tab_row189 : rowT Tryz.prog 189 = some true := by kernel_rfl
@[go_sem] theorem tab_size189 : sizeT Tryz.prog 189 = some 3 := by kernel_rfl
@[go_sem] theorem tab_conc189 : Program.concrete Tryz.prog 189 = true := by kernel_rfl
@[go_sem] theorem tab_lay189 : layE Tryz.prog 189 = some (3, 24, [.int .i64 0, .int .i64 0, .int .i64 0]) := by kernel_rfl
@[go_sem] theorem tab_known189 : knownT Tryz.prog 189 = true := by kernel_rfl
@[go_sem] theorem tab_fld189_0 : fldT Tryz.prog 189 0 = some 0 := by kernel_rfl
@[go_sem] theorem tab_fty189_0 : fldTy Tryz.prog 189 0 = some (3, 0) := by kernel_rfl
@[go_sem] theorem tab_pl189_0 : placeT Tryz.prog 189 0 = some (0, 1) := by kernel_rfl
@[go_sem] theorem tab_fld189_1 : fldT Tryz.prog 189 1 = some 1 := by kernel_rfl
@[go_sem] theorem tab_fty189_1 : fldTy Tryz.prog 189 1 = some (3, 1) := by kernel_rfl
@[go_sem] theorem tab_pl189_1 : placeT Tryz.prog 189 1 = some (1, 1) := by kernel_rfl
@[go_sem] theorem tab_fld189_2 : fldT Tryz.prog 189 2 = some 2 := by kernel_rfl
@[go_sem] theorem tab_fty189_2 : fldTy Tryz.prog 189 2 = some (3, 2) := by kernel_rfl
@[go_sem] theorem tab_pl189_2 : placeT Tryz.prog 189 2 = some (2, 1) := by kernel_rfl
@[go_sem] theorem tab_row190 : rowT Tryz.prog 190 = some true := by kernel_rfl
@[go_sem] theorem tab_size190 : sizeT Tryz.prog 190 = some 3 := by kernel_rfl
@[go_sem] theorem tab_conc190 : Program.concrete Tryz.prog 190 = true := by kernel_rfl
@[go_sem] theorem tab_lay190 : layE Tryz.prog 190 = some (3, 24, [.int .i64 0, .int .i64 0, .int .i64 0]) := by kernel_rfl
@[go_sem] theorem tab_known190 : knownT Tryz.prog 190 = true := by kernel_rfl
@[go_sem] theorem tab_fld190_0 : fldT Tryz.prog 190 0 = some 0 := by kernel_rfl
@[go_sem] theorem tab_fty190_0 : fldTy Tryz.prog 190 0 = some (3, 0) := by kernel_rfl
@[go_sem] theorem tab_pl190_0 : placeT Tryz.prog 190 0 = some (0, 1) := by kernel_rfl
@[go_sem] theorem tab_fld190_1 : fldT Tryz.prog 190 1 = some 1 := by kernel_rfl
@[go_sem] theorem tab_fty190_1 : fldTy Tryz.prog 190 1 = some (3, 1) := by kernel_rfl
@[go_sem] theorem tab_pl190_1 : placeT Tryz.prog 190 1 = some (1, 1) := by kernel_rfl
@[go_sem] theorem tab_fld190_2 : fldT Tryz.prog 190 2 = some 2 := by kernel_rfl
@[go_sem] theorem tab_fty190_2 : fldTy Tryz.prog 190 2 = some (3, 2) := by kernel_rfl
@[go_sem] theorem tab_pl190_2 : placeT Tryz.prog 190 2 = some (2, 1) := by kernel_rfl
@[go_sem] theorem tab_cells190 : cellsT Tryz.prog 190 = some [3, 3, 3] := by kernel_rfl
@[go_sem] theorem tab_row191 : rowT Tryz.prog 191 = some true := by kernel_rfl
@[go_sem] theorem tab_size191 : sizeT Tryz.prog 191 = some 2 := by kernel_rfl
@[go_sem] theorem tab_k191 : kT Tryz.prog 191 = .arr 2 3 := by kernel_rfl
@[go_sem] theorem tab_arr191 : arrT Tryz.prog 191 = some (2, 3) := by kernel_rfl
@[go_sem] theorem tab_conc191 : Program.concrete Tryz.prog 191 = true := by kernel_rfl
@[go_sem] theorem tab_lay191 : layE Tryz.prog 191 = some (2, 16, [.int .i64 0, .int .i64 0]) := by kernel_rfl
@[go_sem] theorem tab_cells191 : cellsT Tryz.prog 191 = some [3, 3] := by kernel_rfl
@[go_sem] theorem tab_known191 : knownT Tryz.prog 191 = true := by kernel_rfl
@[go_sem] theorem tab_pl191 (i : Nat) : placeT Tryz.prog 191 i = some (i * 1, 1) := by simp only [placeT, Tryz.underlying191, tab_size3, Option.map_some]
@[go_sem] theorem tab_row192 : rowT Tryz.prog 192 = some false := by kernel_rfl
@[go_sem] theorem tab_size192 : sizeT Tryz.prog 192 = some 1 := by kernel_rfl
@[go_sem] theorem tab_elem192 : elemT Tryz.prog 192 = some 191 := by kernel_rfl
@[go_sem] theorem tab_k192 : kT Tryz.prog 192 = .sl 191 := by kernel_rfl
@[go_sem] theorem tab_src192 : srcT Tryz.prog 192 = true := by kernel_rfl
@[go_sem] theorem tab_conc192 : Program.concrete Tryz.prog 192 = true := by kernel_rfl
@[go_sem] theorem tab_lay192 : layE Tryz.prog 192 = some (1, 24, [.sl true []]) := by kernel_rfl
@[go_sem] theorem tab_row193 : rowT Tryz.prog 193 = some false := by kernel_rfl
@[go_sem] theorem tab_size193 : sizeT Tryz.prog 193 = some 1 := by kernel_rfl
@[go_sem] theorem tab_ptr193 : isPtrT Tryz.prog 193 = true := by kernel_rfl
@[go_sem] theorem tab_conc193 : Program.concrete Tryz.prog 193 = true := by kernel_rfl
@[go_sem] theorem tab_lay193 : layE Tryz.prog 193 = some (1, 8, [.nilp]) := by kernel_rfl
@[go_sem] theorem tab_row194 : rowT Tryz.prog 194 = some false := by kernel_rfl
@[go_sem] theorem tab_size194 : sizeT Tryz.prog 194 = some 1 := by kernel_rfl
@[go_sem] theorem tab_elem194 : elemT Tryz.prog 194 = some 29 := by kernel_rfl
@[go_sem] theorem tab_k194 : kT Tryz.prog 194 = .sl 29 := by kernel_rfl
@[go_sem] theorem tab_src194 : srcT Tryz.prog 194 = true := by kernel_rfl
@[go_sem] theorem tab_conc194 : Program.concrete Tryz.prog 194 = true := by kernel_rfl
@[go_sem] theorem tab_lay194 : layE Tryz.prog 194 = some (1, 24, [.sl true []]) := by kernel_rfl
@[go_sem] theorem tab_row206 : rowT Tryz.prog 206 = some true := by kernel_rfl
@[go_sem] theorem tab_size206 : sizeT Tryz.prog 206 = some 12 := by kernel_rfl
@[go_sem] theorem tab_k206 : kT Tryz.prog 206 = .arr 12 3 := by kernel_rfl
@[go_sem] theorem tab_arr206 : arrT Tryz.prog 206 = some (12, 3) := by kernel_rfl
@[go_sem] theorem tab_conc206 : Program.concrete Tryz.prog 206 = true := by kernel_rfl
@[go_sem] theorem tab_lay206 : layE Tryz.prog 206 = some (12, 96, [.int .i64 0, .int .i64 0, .int .i64 0, .int .i64 0, .int .i64 0, .int .i64 0, .int .i64 0, .int .i64 0, .int .i64 0, .int .i64 0, .int .i64 0, .int .i64 0]) := by kernel_rfl
@[go_sem] theorem tab_cells206 : cellsT Tryz.prog 206 = some [3, 3, 3, 3, 3, 3, 3, 3, 3, 3, 3, 3] := by kernel_rfl
@[go_sem] theorem tab_known206 : knownT Tryz.prog 206 = true := by kernel_rfl
@[go_sem] theorem tab_pl206 (i : Nat) : placeT Tryz.prog 206 i = some (i * 1, 1) := by simp only [placeT, Tryz.underlying206, tab_size3, Option.map_some]
@[go_sem] theorem tab_row210 : rowT Tryz.prog 210 = some true := by kernel_rfl
@[go_sem] theorem tab_size210 : sizeT Tryz.prog 210 = some 3 := by kernel_rfl
@[go_sem] theorem tab_k210 : kT Tryz.prog 210 = .arr 3 3 := by kernel_rfl
@[go_sem] theorem tab_arr210 : arrT Tryz.prog 210 = some (3, 3) := by kernel_rfl
@[go_sem] theorem tab_conc210 : Program.concrete Tryz.prog 210 = true := by kernel_rfl
@[go_sem] theorem tab_lay210 : layE Tryz.prog 210 = some (3, 24, [.int .i64 0, .int .i64 0, .int .i64 0]) := by kernel_rfl
@[go_sem] theorem tab_cells210 : cellsT Tryz.prog 210 = some [3, 3, 3] := by kernel_rfl
@[go_sem] theorem tab_known210 : knownT Tryz.prog 210 = true := by kernel_rfl
@[go_sem] theorem tab_pl210 (i : Nat) : placeT Tryz.prog 210 i = some (i * 1, 1) := by simp only [placeT, Tryz.underlying210, tab_size3, Option.map_some]
end Go.Proofs.YtdhngmldmalbbaaGreat
end
section
set_option linter.all false
/-
  The code of an entry of a journal: what is written for the cells of a value, and what is read.
-/
namespace Go.Store
open Go.Lift Go.RowKit

/-- the cells of a value, in order. -/
inductive Sch where
  | nil
  | int (r : Sch)
  | word (r : Sch)
  | bool (r : Sch)
  | str (r : Sch)
  | sl (e r : Sch)

def Sch.app : Sch → Sch → Sch
  | .nil, t => t
  | .int r, t => .int (r.app t)
  | .word r, t => .word (r.app t)
  | .bool r, t => .bool (r.app t)
  | .str r, t => .str (r.app t)
  | .sl e r, t => .sl e (r.app t)

def sI : Sch := .int .nil
def sStr : Sch := .str .nil
def sRd : Sch := .int (.int .nil)
def sPlace : Sch := .int (.int (.int (.int .nil)))
def sRep : Sch := .int (.str (.int (.int (.int (.int (.int (.sl sRd .nil)))))))
def sItem : Sch := sRep.app (.int (.int .nil))
def sPer : Sch := .int (.bool (.int (.int (.int (.int (.sl sRd .nil))))))
def sCnt : Sch := .str (.int (.int .nil))
def sAna : Sch := .sl sI (.sl sI (.sl sI (.int (.word (.int (.int (.int .nil)))))))
def sHist : Sch := .sl (.sl sCnt .nil) (.sl sStr .nil)
def sCyc : Sch := .int (.int (.int (.sl sRep (sAna.app (.int (.sl sI (.sl sI sHist)))))))

def Sch.n : Sch → Nat
  | .nil => 0
  | .int r | .word r | .bool r | .str r | .sl _ r => r.n + 1

/-- the highest byte first. -/
def be : Nat → Nat → List UInt8
  | 0, _ => []
  | n + 1, v => UInt8.ofNat (v / 256 ^ n) :: be n v

def num (bs : List UInt8) : Nat := bs.foldl (fun a b => a * 256 + b.toNat) 0

/-- an int as 64 bits. -/
def u64 (v : Int) : Nat := (v % 18446744073709551616).toNat
/-- 64 bits as an int. -/
def s64 (n : Nat) : Int := IntKind.i64.wrap n

def enc : Sch → List LV → List UInt8
  | .int r, .int _ v :: us => be 8 (u64 v) ++ enc r us
  | .word r, .int _ v :: us => be 8 v.toNat ++ enc r us
  | .bool r, .bool b :: us => (if b then 1 else 0) :: enc r us
  | .str r, .str s :: us => be 4 s.size ++ (s.data.toList ++ enc r us)
  | .sl e r, .sl _ es :: us => be 4 es.length ++ (es.flatMap (enc e) ++ enc r us)
  | _, _ => []

def ok : Sch → List LV → Prop
  | .nil, [] => True
  | .int r, .int k v :: us => k = .i64 ∧ -9223372036854775808 ≤ v ∧ v ≤ 9223372036854775807 ∧ ok r us
  | .word r, .int k v :: us => k = .u64 ∧ 0 ≤ v ∧ v ≤ 18446744073709551615 ∧ ok r us
  | .bool r, .bool _ :: us => ok r us
  | .str r, .str s :: us => s.size < 4294967296 ∧ ok r us
  | .sl e r, .sl _ es :: us => es.length < 4294967296 ∧ (∀ x ∈ es, ok e x) ∧ ok r us
  | _, _ => False

/-- a value, without what is known of the capacities of its slices. -/
def nz : Sch → List LV → List LV
  | .int r, u :: us => u :: nz r us
  | .word r, u :: us => u :: nz r us
  | .bool r, u :: us => u :: nz r us
  | .str r, u :: us => u :: nz r us
  | .sl e r, .sl _ es :: us => .sl false (es.map (nz e)) :: nz r us
  | .sl _ r, u :: us => u :: nz r us
  | .nil, us => us
  | _, [] => []

def decN (f : List UInt8 → Option (List LV × List UInt8)) : Nat → List UInt8 → Option (List (List LV) × List UInt8)
  | 0, bs => some ([], bs)
  | n + 1, bs => match f bs with
    | some (x, bs') => match decN f n bs' with
      | some (xs, bs'') => some (x :: xs, bs'')
      | none => none
    | none => none

def take' (n : Nat) (bs : List UInt8) : Option (List UInt8 × List UInt8) := if n ≤ bs.length then some (bs.take n, bs.drop n) else none

/-- a first cell, and what follows. -/
def cons' (u : LV) : Option (List LV × List UInt8) → Option (List LV × List UInt8)
  | some (us, bs) => some (u :: us, bs)
  | none => none

def dec : Sch → List UInt8 → Option (List LV × List UInt8)
  | .nil, bs => some ([], bs)
  | .int r, bs => match take' 8 bs with
    | some (x, bs') => cons' (.int .i64 (s64 (num x))) (dec r bs')
    | none => none
  | .word r, bs => match take' 8 bs with
    | some (x, bs') => cons' (.int .u64 (num x)) (dec r bs')
    | none => none
  | .bool r, bs => match take' 1 bs with
    | some (x, bs') => if num x ≤ 1 then cons' (.bool (num x == 1)) (dec r bs') else none
    | none => none
  | .str r, bs => match take' 4 bs with
    | some (x, bs') => match take' (num x) bs' with
      | some (y, bs'') => cons' (.str (strOf y)) (dec r bs'')
      | none => none
    | none => none
  | .sl e r, bs => match take' 4 bs with
    | some (x, bs') => match decN (dec e) (num x) bs' with
      | some (xs, bs'') => cons' (.sl false xs) (dec r bs'')
      | none => none
    | none => none

/-- what may be written bears no references. -/
theorem ok_lt {n : Nat} : ∀ {s : Sch} {us : List LV}, ok s us → ltL n us = true
  | .nil, [], _ => rfl
  | .int r, .int k v :: us, h => by simp only [ok] at h; simp only [ltL, LV.lt, ok_lt h.2.2.2, Bool.and_self]
  | .word r, .int k v :: us, h => by simp only [ok] at h; simp only [ltL, LV.lt, ok_lt h.2.2.2, Bool.and_self]
  | .bool r, .bool b :: us, h => by simp only [ok] at h; simp only [ltL, LV.lt, ok_lt h, Bool.and_self]
  | .str r, .str b :: us, h => by simp only [ok] at h; simp only [ltL, LV.lt, ok_lt h.2, Bool.and_self]
  | .sl e r, .sl f es :: us, h => by
    simp only [ok] at h
    have : ltLL n es = true := lt_int fun x hx => ok_lt (h.2.1 x hx)
    simp only [ltL, LV.lt, ok_lt h.2.2, this, Bool.and_self]

theorem ok_frz {S : LS} {n d : Nat} : ∀ {s : Sch} {us : List LV}, ok s us → us.map (frz S n d) = us
  | .nil, [], _ => rfl
  | .int r, .int k v :: us, h => by simp only [ok] at h; simp only [List.map_cons, frz_int, ok_frz h.2.2.2]
  | .word r, .int k v :: us, h => by simp only [ok] at h; simp only [List.map_cons, frz_int, ok_frz h.2.2.2]
  | .bool r, .bool b :: us, h => by simp only [ok] at h; simp only [List.map_cons, frz_bool, ok_frz h]
  | .str r, .str b :: us, h => by simp only [ok] at h; simp only [List.map_cons, frz_str, ok_frz h.2]
  | .sl e r, .sl f es :: us, h => by simp only [ok] at h; simp only [List.map_cons, frz_sl, ok_frz h.2.2]

theorem ok_frzL {S : LS} {n d : Nat} {s : Sch} {es : List (List LV)} (h : ∀ e ∈ es, ok s e) : (es.map fun e => e.map (frz S n d)) = es := by
  induction es with
  | nil => rfl
  | cons e es ih => rw [List.map_cons, ih (fun x hx => h x (by simp [hx])), ok_frz (h e (by simp))]

/-- a row of such values, where the call ends. -/
theorem RowT_ok {S T : LS} {m sz n d : Nat} {A : LS} {u : LV} {s : Sch} {es : List (List LV)} (h : RowT n T m u sz es) (hA : A.length = n) (hok : ∀ e ∈ es, ok s e) : ∃ full, frz (A ++ T) n (d + 1) u = .sl full es := by
  rcases h.frz (d := d) hA with h | h
  · exact h
  · exact ⟨false, by rw [h, ok_frzL hok]⟩

/-! ### Numbers -/
theorem be_length (n v : Nat) : (be n v).length = n := by induction n with | zero => rfl | succ n ih => simp [be, ih]

theorem num_append (a b : List UInt8) : num (a ++ b) = num a * 256 ^ b.length + num b := by
  have h : ∀ (l : List UInt8) (s : Nat), l.foldl (fun a b => a * 256 + b.toNat) s = s * 256 ^ l.length + l.foldl (fun a b => a * 256 + b.toNat) 0 := by
    intro l
    induction l with
    | nil => intro s; simp
    | cons x l ih => intro s; rw [List.foldl_cons, List.foldl_cons, ih, ih (0 * 256 + x.toNat)]; simp [Nat.pow_succ, Nat.add_mul, Nat.mul_assoc, Nat.mul_comm 256, Nat.add_assoc]
  rw [num, List.foldl_append, h]; rfl

theorem num_be (n v : Nat) : num (be n v) = v % 256 ^ n := by
  induction n with
  | zero => simp [be, num, Nat.mod_one]
  | succ n ih =>
    have : be (n + 1) v = [UInt8.ofNat (v / 256 ^ n)] ++ be n v := rfl
    rw [this, num_append, ih, be_length]
    have e : v % 256 ^ (n + 1) = v % 256 ^ n + 256 ^ n * (v / 256 ^ n % 256) := by rw [Nat.pow_succ]; exact Nat.mod_mul
    have e2 : num [UInt8.ofNat (v / 256 ^ n)] = v / 256 ^ n % 256 := by simp [num]
    rw [e, e2, Nat.mul_comm, Nat.add_comm]

theorem num_lt (l : List UInt8) : num l < 256 ^ l.length := by
  have h : ∀ (l : List UInt8) (s : Nat), l.foldl (fun a b => a * 256 + b.toNat) s < (s + 1) * 256 ^ l.length := by
    intro l
    induction l with
    | nil => intro s; simp
    | cons x l ih =>
      intro s
      rw [List.foldl_cons, List.length_cons, Nat.pow_succ, Nat.mul_comm (256 ^ l.length), ← Nat.mul_assoc]
      have h1 := x.toNat_lt
      exact Nat.lt_of_lt_of_le (ih _) (Nat.mul_le_mul_right _ (by omega))
  have := h l 0
  simpa [num] using this

end Go.Store
end
section
set_option linter.all false
namespace Go.Proofs.YtdhngmldmalbbaaGreat
open Go.Lift Go.RowKit Go.Store
set_option linter.unusedSimpArgs false

def cb (fl : Bool) (xs : List UInt8) (at_ : Nat) : Blk := (2, [[.sl fl (xs.map u8c), .int .i64 at_]])

set_option maxHeartbeats 400000 in
theorem Left_ok {S : LS} {p : Nat} {fl : Bool} {xs : List UInt8} {at_ : Nat} (h : S[p]? = some (some (cb fl xs at_))) :
    LCalls Tryz.prog 18 [.ptr p 0 0] S (fun r S' => r = .bool (decide (at_ < xs.length)) ∧ S = S') := by
  refine LCalls_introK 0 Tryz.func18 rfl (by kernel_rfl) rfl fun RR hRR => ?_
  refine Lwp_seq fun KK0 hKK0 => ?_
  refine LregionG [none] (by kernel_rfl) (by kernel_rfl) ?_
  simp -dsimp only [go_sem, ↓reduceIte, cb]
  repeat with_reducible refine And.intro (by first | omega | decide) ?_
  refine hKK0 _ _ ?_
  try clear hKK0 KK0
  refine Lwp_seq fun KK1 hKK1 => ?_
  refine LdrawE [0,1,2,3,4,5,6,7,8,9,10] [(p, cb fl xs at_)] none (by kernel_rfl) (by kernel_rfl) (by kernel_rfl) (by kernel_rfl) (by simp [Watch.holds, h]) ?_
  simp -dsimp only [go_sem, ↓reduceIte, cb]
  repeat with_reducible refine And.intro (by first | omega | decide) ?_
  refine hKK1 _ _ ?_
  try clear hKK1 KK1
  refine Lwp_ret ?_
  simp only [LThen, LBlock, LPost, Tryz.results18]
  simp -dsimp only [go_sem, ↓reduceIte, cb]
  refine ret_self (by simp only [go_sem, LV.lt]) ?_
  simp only [go_sem]
  refine hRR _ _ ?_
  exact ⟨by simp, rfl⟩

theorem List.set_getElem?_self {α : Type} {l : List α} {i : Nat} {x : α} (h : l[i]? = some x) : l.set i x = l := by
  apply List.ext_getElem?
  intro j
  by_cases e : i = j
  · subst e; rw [List.getElem?_set_self (List.getElem?_eq_some_iff.1 h).1, h]
  · rw [List.getElem?_set_ne e]

set_option maxHeartbeats 400000 in
theorem Next_ok {S : LS} {p : Nat} {fl : Bool} {xs : List UInt8} {at_ : Nat} (n : Int) (hx : xs.length ≤ 1000000) (hn : -9223372036854775808 ≤ n ∧ n ≤ 9223372036854775807) (h : S[p]? = some (some (cb fl xs at_))) :
    LCalls Tryz.prog 6 [.ptr p 0 0, .int .i64 n] S (fun r S' => ∃ (v : Int) (at' : Nat), r = .int .i64 v ∧ S' = S.set p (some (cb fl xs at')) ∧ 0 ≤ v ∧ v ≤ 255 ∧ (1 ≤ n → v < n) ∧ (n < 1 → v = 0)) := by
  refine LCalls_introK 0 Tryz.func6 rfl (by kernel_rfl) rfl fun RR hRR => ?_
  refine Lwp_seq fun KK0 hKK0 => ?_
  refine LregionG [none] (by kernel_rfl) (by kernel_rfl) ?_
  simp -dsimp only [go_sem, ↓reduceIte, cb, h]
  repeat with_reducible refine And.intro (by first | omega | decide) ?_
  refine hKK0 _ _ ?_
  try clear hKK0 KK0
  refine Lwp_seq fun KK1 hKK1 => ?_
  refine Lwp_seq fun KK2 hKK2 => ?_
  refine LregionG [none, none, none, none, some (8, false), some (8, false), none] (by kernel_rfl) (by kernel_rfl) ?_
  simp -dsimp only [go_sem, ↓reduceIte, cb, h]
  refine (Left_ok h).k ?_
  rintro r S' ⟨rfl, rfl⟩
  simp -dsimp only [go_sem, ↓reduceIte, cb, h]
  by_cases hlt : at_ < xs.length
  rotate_left
  · skip
    simp only [go_sem, ↓reduceIte, hlt, decide_false, Bool.not_false]
    refine hKK2 _ _ ?_
    try clear hKK2 KK2
    refine Lwp_cond (by simp only [go_sem, ↓reduceIte, cb, h, hlt, decide_false, Bool.not_false]; rfl) (fun ht => ?_) (fun hf => ?_)
    · skip
      refine Lwp_seq fun KK3 hKK3 => ?_
      refine LregionG [none] (by kernel_rfl) (by kernel_rfl) ?_
      simp -dsimp only [go_sem, ↓reduceIte, cb, h, hlt, decide_false, Bool.not_false]
      repeat with_reducible refine And.intro (by first | omega | decide) ?_
      refine hKK3 _ _ ?_
      try clear hKK3 KK3
      refine Lwp_ret ?_
      simp only [LThen, LBlock, LPost, Tryz.results6]
      simp -dsimp only [go_sem, ↓reduceIte, cb, h, hlt, decide_false, Bool.not_false]
      refine ret_self (by simp only [go_sem, LV.lt]) ?_
      simp only [go_sem]
      refine hRR _ _ ?_
      exact ⟨0, at_, rfl, (List.set_getElem?_self h).symm, by omega, by omega, by omega, by omega⟩
    · skip
      cases hf
  · skip
    have hw : IntKind.i64.wrap ((at_ : Int) + 1) = ((at_ + 1 : Nat) : Int) := w64 (by omega) (by omega)
    have hw2 : IntKind.i64.wrap (((at_ + 1 : Nat) : Int) - 1) = (at_ : Int) := by rw [w64 (by omega) (by omega)]; omega
    have hS1 : (S.set p (some (cb fl xs (at_ + 1))))[p]? = some (some (cb fl xs (at_ + 1))) := List.getElem?_set_self (lt_of_get h)
    simp only [go_sem, ↓reduceIte, hlt, decide_true, Bool.not_true]
    refine hKK2 _ _ ?_
    try clear hKK2 KK2
    refine Lwp_cond (by simp only [go_sem, ↓reduceIte, cb, h, hlt, decide_true, Bool.not_true, hw]; rfl) (fun ht => ?_) (fun hf => ?_)
    · skip
      refine Lwp_seq fun KK4 hKK4 => ?_
      refine LregionG [none] (by kernel_rfl) (by kernel_rfl) ?_
      simp -dsimp only [go_sem, ↓reduceIte, cb, h, hlt, decide_true, Bool.not_true, hw]
      repeat with_reducible refine And.intro (by first | omega | decide) ?_
      refine hKK4 _ _ ?_
      try clear hKK4 KK4
      refine Lwp_ret ?_
      simp only [LThen, LBlock, LPost, Tryz.results6]
      simp -dsimp only [go_sem, ↓reduceIte, cb, h, hlt, decide_true, Bool.not_true, hw]
      refine ret_self (by simp only [go_sem, LV.lt]) ?_
      simp only [go_sem]
      refine hRR _ _ ?_
      exact ⟨0, at_, rfl, (List.set_getElem?_self h).symm, by omega, by omega, by omega, by omega⟩
    · skip
      refine Lwp_skip ?_
      try simp -dsimp only [go_sem, ↓reduceIte, cb, h, hlt, decide_true, Bool.not_true, hw]
      refine hKK1 _ _ ?_
      try clear hKK1 KK1
      refine Lwp_seq fun KK5 hKK5 => ?_
      refine LregionG [none, none, none, none, none, none, none, none] (by kernel_rfl) (by kernel_rfl) ?_
      simp -dsimp only [go_sem, ↓reduceIte, cb, h, hlt, decide_true, Bool.not_true, hw]
      repeat with_reducible refine And.intro (by first | omega | decide) ?_
      refine hKK5 _ _ ?_
      try clear hKK5 KK5
      refine Lwp_seq fun KK6 hKK6 => ?_
      have hn1 : ¬ n < 1 := by simpa using hf
      have hn0 : (n ≠ 0) = True := by simp; omega
      refine LdrawE [0,1,2,3,4,5,6,7,8,9,10,11,12,13,14] [(p, cb fl xs (at_ + 1))] none (by kernel_rfl) (by kernel_rfl) (by kernel_rfl) (by kernel_rfl) (by simp only [Watch.holds, List.mem_singleton, forall_eq]; exact hS1) ?_
      simp -dsimp only [go_sem, ↓reduceIte, cb, h, hlt, decide_true, Bool.not_true, hw, hw2, u8c_getD hlt, hn0]
      try refine ⟨trivial, ?_⟩
      refine hKK6 _ _ ?_
      try clear hKK6 KK6
      refine Lwp_ret ?_
      simp only [LThen, LBlock, LPost, Tryz.results6]
      simp -dsimp only [go_sem, ↓reduceIte, cb, h, hlt, decide_true, Bool.not_true, hw]
      refine ret_set (lt_of_get h) (by simp only [go_sem, ↓reduceIte, LV.lt, ltLL, ltL, lt_u8c]) (by simp only [LV.lt]) ?_
      refine hRR _ _ ⟨_, at_ + 1, rfl, rfl, ?_⟩
      have hb := (xs.getD at_ 0).toNat_lt
      rw [w64 (by omega) (by omega), Int.tmod_eq_emod_of_nonneg (by omega)]
      refine ⟨Int.emod_nonneg _ (by omega), ?_, fun _ => Int.emod_lt_of_pos _ (by omega), fun h => absurd h hn1⟩
      have h0 := Int.emod_add_mul_ediv ((xs.getD at_ 0).toNat : Int) n
      have h1 : 0 ≤ n * (((xs.getD at_ 0).toNat : Int) / n) := Int.mul_nonneg (by omega) (Int.ediv_nonneg (by omega) (by omega))
      omega


/-- a call that takes choices. -/
def Cds (f : FuncId) (args : List LV) (R : LV → Prop) : Prop := ∀ (S : LS) (p : Nat) (fl : Bool) (xs : List UInt8) (a : Nat), xs.length ≤ 1000000 → S[p]? = some (some (cb fl xs a)) →
  LCalls Tryz.prog f (.ptr p 0 0 :: args) S (fun r S' => ∃ a', S' = S.set p (some (cb fl xs a')) ∧ R r)

section
variable {S T : LS} {p : Nat} {fl : Bool} {xs : List UInt8} {a : Nat} {f : FuncId} {args : List LV} {R : LV → Prop}
theorem Cds.at0 (h : Cds f args R) (hx : xs.length ≤ 1000000) (hp : p < S.length) : LCalls Tryz.prog f (.ptr p 0 0 :: args) (S.set p (some (cb fl xs a))) (fun r S' => ∃ a', S' = S.set p (some (cb fl xs a')) ∧ R r) :=
  (h _ p fl xs a hx (List.getElem?_set_self hp)).mono fun r S' ⟨a', h1, h2⟩ => ⟨a', by rw [h1, List.set_set], h2⟩

theorem Cds.at_ (h : Cds f args R) (hx : xs.length ≤ 1000000) (hp : p < S.length) : LCalls Tryz.prog f (.ptr p 0 0 :: args) (S.set p (some (cb fl xs a)) ++ T) (fun r S' => ∃ a', S' = S.set p (some (cb fl xs a')) ++ T ∧ R r) :=
  (h _ p fl xs a hx (by rw [List.getElem?_append_left (by simpa using hp), List.getElem?_set_self hp])).mono fun r S' ⟨a', h1, h2⟩ => ⟨a', by rw [h1, List.set_append_left _ _ (by simpa using hp), List.set_set], h2⟩

theorem Cds_intro {fn : Func} {c : Code} (d : Nat) (hf : Tryz.prog.funcs[f]? = some fn) (hb : fn.body = some c) (hg : goT Tryz.prog f = true) (hn : Nat.ble (args.length + 1) fn.ntmps = true)
    (h : ∀ (S : LS) (p : Nat) (fl : Bool) (xs : List UInt8) (a : Nat) (RR : LV → LS → Prop), xs.length ≤ 1000000 → p < S.length → (∀ r a', R r → RR r (S.set p (some (cb fl xs a')))) →
      Lwp Tryz.prog fn.ntmps c (LPost Tryz.prog fn d S RR) (argsEnv (.ptr p 0 0 :: args)) (S.set p (some (cb fl xs a)) ++ [])) : Cds f args R := fun S p fl xs a hx hp =>
  LCalls_introK d hf hb hg (by simpa using hn) fun RR hRR => by
    have := h S p fl xs a RR hx (lt_of_get hp) (fun r a' hr => hRR r _ ⟨a', rfl, hr⟩)
    rwa [List.append_nil, List.set_getElem?_self hp] at this

theorem ltLL_cb {n : Nat} : ltLL n (cb fl xs a).2 = true := by simp [cb, ltLL, ltL, LV.lt, lt_u8c]
theorem frzB_cb {n d : Nat} : frzB S n d (cb fl xs a) = cb fl xs a := by cases d <;> simp [frzB, cb, frz]

theorem ret_codes {d : Nat} {RR : LV → LS → Prop} {u : LV} (hp : p < S.length) (h1 : (frz (S.set p (some (cb fl xs a)) ++ T) S.length d u).lt S.length = true) (h2 : RR (frz (S.set p (some (cb fl xs a)) ++ T) S.length d u) (S.set p (some (cb fl xs a)))) :
    RetOk d S RR (S.set p (some (cb fl xs a)) ++ T) u :=
  ret_frame1 (b := cb fl xs a) ((Keeps.set (ids := [p]) _ (List.mem_singleton.2 rfl)).trans (Keeps.app _ T []) (fun j _ h => h.elim id (fun h => absurd h (by simp)))) hp
    (by rw [List.getElem?_append_left (by simpa using hp), List.getElem?_set_self hp]) frzB_cb.symm ltLL_cb h1 h2
theorem ret_codes0 {d : Nat} {RR : LV → LS → Prop} {u : LV} (hp : p < S.length) (h1 : (frz (S.set p (some (cb fl xs a))) S.length d u).lt S.length = true) (h2 : RR (frz (S.set p (some (cb fl xs a))) S.length d u) (S.set p (some (cb fl xs a)))) :
    RetOk d S RR (S.set p (some (cb fl xs a))) u := by
  have := ret_codes (T := []) (d := d) (RR := RR) (u := u) (fl := fl) (xs := xs) (a := a) hp
  simp only [List.append_nil] at this
  exact this h1 h2
end

theorem tbl {Q : Int → Prop} {w : Int} (l : List Int) (h0 : 0 ≤ w) (hk : w < l.length) (h : ∀ x ∈ l, Q x) : ∃ y, (l.map fun x => [LV.int .i64 x]).getD w.toNat [] = [.int .i64 y] ∧ Q y := by
  have hlt : w.toNat < l.length := by omega
  refine ⟨l[w.toNat], ?_, h _ (List.getElem_mem hlt)⟩
  rw [List.getD_eq_getElem?_getD, List.getElem?_map, List.getElem?_eq_getElem hlt]; rfl

theorem tblS {w : Int} (l : List ByteArray) (h0 : 0 ≤ w) (hk : w < l.length) : ∃ y, (l.map fun x => [LV.str x]).getD w.toNat [] = [.str y] ∧ y ∈ l := by
  have hlt : w.toNat < l.length := by omega
  refine ⟨l[w.toNat], ?_, List.getElem_mem hlt⟩
  rw [List.getD_eq_getElem?_getD, List.getElem?_map, List.getElem?_eq_getElem hlt]; rfl

def isI (v : Int) : Prop := -9223372036854775808 ≤ v ∧ v ≤ 9223372036854775807

theorem tmodI (x : Int) {m : Int} (h : 0 < m) (h2 : m ≤ 9223372036854775807) : isI (x.tmod m) := by
  have h1 := Int.tmod_lt_of_pos x h
  have h3 := Int.tmod_lt_of_pos (-x) h
  rw [Int.neg_tmod] at h3
  exact ⟨by omega, by omega⟩

theorem NextC (n : Int) (hn : -9223372036854775808 ≤ n ∧ n ≤ 9223372036854775807) : Cds 6 [.int .i64 n] (fun r => ∃ v, r = .int .i64 v ∧ 0 ≤ v ∧ v ≤ 255 ∧ (1 ≤ n → v < n) ∧ (n < 1 → v = 0)) :=
  fun S p fl xs a hx h => (Next_ok n hx hn h).mono fun r S' ⟨v, a', h1, h2, h3⟩ => ⟨a', h2, v, h1, h3⟩

set_option maxHeartbeats 400000 in
theorem IntC : Cds 19 [] (fun r => ∃ v, r = .int .i64 v ∧ isI v) := by
  refine Cds_intro 0 Tryz.func19 rfl (by kernel_rfl) rfl fun S p fl xs a RR hx hp hRR => ?_
  refine Lwp_seq fun KK0 hKK0 => ?_
  refine LregionG [none] (by kernel_rfl) (by kernel_rfl) ?_
  simp -dsimp only [go_sem, ↓reduceIte]
  repeat with_reducible refine And.intro (by first | omega | decide) ?_
  refine hKK0 _ _ ?_
  try clear hKK0 KK0
  refine Lwp_seq fun KK1 hKK1 => ?_
  refine LregionG [none, none] (by kernel_rfl) (by kernel_rfl) ?_
  simp -dsimp only [go_sem, ↓reduceIte]
  repeat with_reducible refine And.intro (by first | omega | decide) ?_
  refine hKK1 _ _ ?_
  try clear hKK1 KK1
  refine Lwp_seq fun KK2 hKK2 => ?_
  refine Lwp_seq fun KK3 hKK3 => ?_
  refine LregionG [none, none, none] (by kernel_rfl) (by kernel_rfl) ?_
  simp -dsimp only [go_sem, ↓reduceIte]
  refine ((NextC 4 (by omega)).at0 hx hp).k ?_
  rintro _ _ ⟨a, rfl, v, rfl, hv0, hv1, hv2, -⟩
  simp -dsimp only [go_sem, ↓reduceIte]
  refine hKK3 _ _ ?_
  try clear hKK3 KK3
  refine Lwp_cond (by simp only [go_sem, ↓reduceIte]; rfl) (fun ht => ?_) (fun hf => ?_)
  · skip
    refine Lwp_seq fun KK4 hKK4 => ?_
    refine LregionG [none, none, none, none, none, none, none, none] (by kernel_rfl) (by kernel_rfl) ?_
    simp -dsimp only [go_sem, ↓reduceIte]
    refine ((NextC 12 (by omega)).at0 hx hp).k ?_
    rintro _ _ ⟨a, rfl, w, rfl, hw0, hw1, hw2, -⟩
    simp -dsimp only [go_sem, ↓reduceIte]
    obtain ⟨y, hy, hy2⟩ := tbl (Q := isI) (w := w) [9223372036854775807, -9223372036854775808, 144115188075855872, 144115188075855873, -1, 4294967296, 1048576, 1048577, 4194304, 1000001, 0, 17] hw0 (by simpa using hw2 (by omega)) (by simp [isI])
    simp only [List.map_cons, List.map_nil] at hy
    simp only [hy, go_sem, ↓reduceIte]
    refine ⟨⟨by omega, by have := hw2 (by omega); simpa using this⟩, ?_⟩
    refine hKK4 _ _ ?_
    try clear hKK4 KK4
    refine Lwp_ret ?_
    simp only [LThen, LBlock, LPost, Tryz.results19]
    simp -dsimp only [go_sem, ↓reduceIte]
    refine ret_codes0 hp (by simp only [go_sem, ↓reduceIte, LV.lt, ltL, ltLL]) ?_
    simp only [go_sem, ↓reduceIte]
    refine hRR _ _ ?_
    exact ⟨y, rfl, hy2⟩
  · skip
    refine Lwp_skip ?_
    try simp -dsimp only [go_sem, ↓reduceIte]
    refine hKK2 _ _ ?_
    try clear hKK2 KK2
    refine Lwp_seq fun KK5 hKK5 => ?_
    refine LregionG [none, none, none, none] (by kernel_rfl) (by kernel_rfl) ?_
    simp -dsimp only [go_sem, ↓reduceIte]
    refine ((NextC 256 (by omega)).at0 hx hp).k ?_
    rintro _ _ ⟨a, rfl, w, rfl, hw0, hw1, hw2, -⟩
    simp -dsimp only [go_sem, ↓reduceIte]
    refine hKK5 _ _ ?_
    try clear hKK5 KK5
    refine Lwp_ret ?_
    simp only [LThen, LBlock, LPost, Tryz.results19]
    simp -dsimp only [go_sem, ↓reduceIte]
    refine ret_codes0 hp (by simp only [go_sem, ↓reduceIte, LV.lt, ltL, ltLL]) ?_
    simp only [go_sem, ↓reduceIte]
    refine hRR _ _ ?_
    exact ⟨_, rfl, w64_range _⟩

set_option maxHeartbeats 400000 in
theorem NameC : Cds 21 [] (fun r => ∃ s : ByteArray, r = .str s ∧ s.size ≤ 5) := by
  refine Cds_intro 0 Tryz.func21 rfl (by kernel_rfl) rfl fun S p fl xs a RR hx hp hRR => ?_
  refine Lwp_seq fun KK0 hKK0 => ?_
  refine LregionG [none] (by kernel_rfl) (by kernel_rfl) ?_
  simp -dsimp only [go_sem, ↓reduceIte]
  repeat with_reducible refine And.intro (by first | omega | decide) ?_
  refine hKK0 _ _ ?_
  try clear hKK0 KK0
  refine Lwp_seq fun KK1 hKK1 => ?_
  refine LregionG [none, none, none, none, none, none] (by kernel_rfl) (by kernel_rfl) ?_
  simp -dsimp only [go_sem, ↓reduceIte]
  refine ((NextC 5 (by omega)).at0 hx hp).k ?_
  rintro _ _ ⟨a, rfl, w, rfl, hw0, hw1, hw2, -⟩
  simp -dsimp only [go_sem, ↓reduceIte]
  obtain ⟨y, hy, hy2⟩ := tblS (w := w) [⟨#[]⟩, ⟨#[65, 66, 49, 50, 51]⟩, ⟨#[120, 32, 121]⟩, ⟨#[0, 255]⟩, ⟨#[90, 90, 90, 90, 90]⟩] hw0 (by simpa using hw2 (by omega))
  simp only [List.map_cons, List.map_nil] at hy
  simp only [hy, go_sem, ↓reduceIte]
  refine ⟨⟨by omega, by have := hw2 (by omega); simpa using this⟩, ?_⟩
  have hy3 : y.size ≤ 5 := by
    clear hy
    simp only [List.mem_cons, List.not_mem_nil, or_false] at hy2
    rcases hy2 with rfl | rfl | rfl | rfl | rfl <;> decide
  refine hKK1 _ _ ?_
  try clear hKK1 KK1
  refine Lwp_ret ?_
  simp only [LThen, LBlock, LPost, Tryz.results21]
  simp -dsimp only [go_sem, ↓reduceIte]
  refine ret_codes0 hp (by simp only [go_sem, ↓reduceIte, LV.lt, ltL, ltLL]) ?_
  simp only [go_sem, ↓reduceIte]
  refine hRR _ _ ?_
  exact ⟨y, rfl, hy3⟩

set_option maxHeartbeats 400000 in
theorem Clip_ok {S : LS} (x lo hi : Int) : LCalls Tryz.prog 50 [.int .i64 x, .int .i64 lo, .int .i64 hi] S (fun r S' => r = .int .i64 (max lo (min x hi)) ∧ S = S') := by
  refine LCalls_introK 0 Tryz.func50 rfl (by kernel_rfl) rfl fun RR hRR => ?_
  refine Lwp_seq fun KK0 hKK0 => ?_
  refine LregionG [none] (by kernel_rfl) (by kernel_rfl) ?_
  simp -dsimp only [go_sem, ↓reduceIte]
  repeat with_reducible refine And.intro (by first | omega | decide) ?_
  refine hKK0 _ _ ?_
  try clear hKK0 KK0
  refine Lwp_seq fun KK1 hKK1 => ?_
  refine LregionG [none, none, none, none, none, none] (by kernel_rfl) (by kernel_rfl) ?_
  simp -dsimp only [go_sem, ↓reduceIte]
  repeat with_reducible refine And.intro (by first | omega | decide) ?_
  refine hKK1 _ _ ?_
  try clear hKK1 KK1
  refine Lwp_ret ?_
  simp only [LThen, LBlock, LPost, Tryz.results50]
  simp -dsimp only [go_sem, ↓reduceIte]
  refine ret_self (by simp only [go_sem, LV.lt]) ?_
  simp only [go_sem]
  refine hRR _ _ ?_
  exact ⟨by congr 1; omega, rfl⟩

set_option maxHeartbeats 400000 in
theorem Nodes22_ok {S : LS} : LCalls Tryz.prog 49 [.int .i64 1] S (fun r S' => r = .int .i64 12 ∧ S = S') := by
  refine LCalls_introK 0 Tryz.func49 rfl (by kernel_rfl) rfl fun RR hRR => ?_
  refine Lwp_seq fun KK0 hKK0 => ?_
  refine LregionG [none] (by kernel_rfl) (by kernel_rfl) ?_
  simp -dsimp only [go_sem, ↓reduceIte]
  repeat with_reducible refine And.intro (by first | omega | decide) ?_
  refine hKK0 _ _ ?_
  try clear hKK0 KK0
  refine Lwp_seq fun KK1 hKK1 => ?_
  refine LregionG [none, none, none, none, none, none] (by kernel_rfl) (by kernel_rfl) ?_
  simp -dsimp only [go_sem, ↓reduceIte]
  repeat with_reducible refine And.intro (by first | omega | decide) ?_
  refine hKK1 _ _ ?_
  try clear hKK1 KK1
  refine Lwp_ret ?_
  simp only [LThen, LBlock, LPost, Tryz.results49]
  simp -dsimp only [go_sem, ↓reduceIte]
  refine ret_self (by simp only [go_sem, LV.lt]) ?_
  simp only [go_sem]
  refine hRR _ _ ?_
  exact ⟨rfl, rfl⟩


theorem w64_lo (n : Int) : (-9223372036854775808 ≤ IntKind.i64.wrap n) = True := eq_true (w64_range n).1
theorem w64_hi (n : Int) : (IntKind.i64.wrap n ≤ 9223372036854775807) = True := eq_true (w64_range n).2

set_option maxHeartbeats 400000 in
theorem PlaceC : Cds 22 [] (fun r => ∃ f x y z : Int, r = .agg [.int .i64 f, .int .i64 x, .int .i64 y, .int .i64 z] ∧ isI f ∧ isI x ∧ isI y ∧ isI z) := by
  refine Cds_intro 0 Tryz.func22 rfl (by kernel_rfl) rfl fun S p fl xs a RR hx hp hRR => ?_
  refine Lwp_seq fun KK0 hKK0 => ?_
  refine LregionG [none] (by kernel_rfl) (by kernel_rfl) ?_
  simp -dsimp only [go_sem, ↓reduceIte]
  repeat with_reducible refine And.intro (by first | omega | decide) ?_
  refine hKK0 _ _ ?_
  try clear hKK0 KK0
  refine Lwp_seq fun KK1 hKK1 => ?_
  refine LregionG [none, none, none, none] (by kernel_rfl) (by kernel_rfl) ?_
  simp -dsimp only [go_sem, ↓reduceIte]
  refine ((NextC 121 (by omega)).at_ hx hp).k ?_
  rintro _ _ ⟨a, rfl, v, rfl, hv0, hv1, hv2, -⟩
  have e1 : IntKind.i64.wrap (7 * v) = 7 * v := w64 (by omega) (by omega)
  have e2 : IntKind.i64.wrap (840 - 7 * v) = 840 - 7 * v := w64 (by omega) (by omega)
  have ed : (840 - 7 * v).tdiv 7 = (840 - 7 * v) / 7 := Int.tdiv_eq_ediv_of_nonneg (by omega)
  have e3 : IntKind.i64.wrap ((840 - 7 * v) / 7) = (840 - 7 * v) / 7 := w64 (by omega) (by omega)
  have e4 : IntKind.i64.wrap ((840 - 7 * v) / 7 + 1) = (840 - 7 * v) / 7 + 1 := w64 (by omega) (by omega)
  simp -dsimp only [go_sem, ↓reduceIte, e1, e2, ed, e3, e4]
  refine hKK1 _ _ ?_
  try clear hKK1 KK1
  refine Lwp_seq fun KK2 hKK2 => ?_
  refine LregionG [none, none, none, none, none, none, none, none] (by kernel_rfl) (by kernel_rfl) ?_
  simp -dsimp only [go_sem, ↓reduceIte, e1, e2, ed, e3, e4]
  refine ((NextC ((840 - 7 * v) / 7 + 1) (by omega)).at_ hx hp).k ?_
  rintro _ _ ⟨a, rfl, w, rfl, hw0, hw1, hw2, -⟩
  simp -dsimp only [go_sem, ↓reduceIte, e1, e2, ed, e3, e4]
  refine hKK2 _ _ ?_
  try clear hKK2 KK2
  refine Lwp_seq fun KK3 hKK3 => ?_
  refine LregionG [none, none, none, none, none, none, none, none, none, none] (by kernel_rfl) (by kernel_rfl) ?_
  simp -dsimp only [go_sem, ↓reduceIte, e1, e2, ed, e3, e4]
  refine ((NextC 20 (by omega)).at_ hx hp).k ?_
  rintro _ _ ⟨a, rfl, z, rfl, hz0, hz1, hz2, -⟩
  simp -dsimp only [go_sem, ↓reduceIte, e1, e2, ed, e3, e4]
  refine hKK3 _ _ ?_
  try clear hKK3 KK3
  refine Lwp_ret ?_
  simp only [LThen, LBlock, LPost, Tryz.results22]
  simp -dsimp only [go_sem, ↓reduceIte, e1, e2, ed, e3, e4]
  refine ret_codes hp (by simp only [go_sem, ↓reduceIte, LV.lt, ltL, ltLL]) ?_
  simp only [go_sem, ↓reduceIte]
  refine hRR _ _ ?_
  exact ⟨_, _, _, _, rfl, ⟨by omega, by omega⟩, ⟨by omega, by omega⟩, w64_range _, w64_range _⟩

set_option maxHeartbeats 400000 in
theorem SignedC (n : Int) (hn : 0 ≤ n ∧ n ≤ 1000000000) : Cds 51 [.int .i64 n] (fun r => ∃ v, r = .int .i64 v ∧ isI v) := by
  refine Cds_intro 0 Tryz.func51 rfl (by kernel_rfl) rfl fun S p fl xs a RR hx hp hRR => ?_
  refine Lwp_seq fun KK0 hKK0 => ?_
  refine LregionG [none] (by kernel_rfl) (by kernel_rfl) ?_
  simp -dsimp only [go_sem, ↓reduceIte]
  repeat with_reducible refine And.intro (by first | omega | decide) ?_
  refine hKK0 _ _ ?_
  try clear hKK0 KK0
  refine Lwp_seq fun KK1 hKK1 => ?_
  refine LregionG [none, none, none, none, none, none, none, none, none, none, none, none, none, none] (by kernel_rfl) (by kernel_rfl) ?_
  simp -dsimp only [go_sem, ↓reduceIte]
  refine ((NextC 256 (by omega)).at0 hx hp).k ?_
  rintro _ _ ⟨a, rfl, u, rfl, hu0, hu1, hu2, -⟩
  simp -dsimp only [go_sem, ↓reduceIte]
  refine ((NextC 256 (by omega)).at0 hx hp).k ?_
  rintro _ _ ⟨a, rfl, v, rfl, hv0, hv1, hv2, -⟩
  simp -dsimp only [go_sem, ↓reduceIte]
  refine ((NextC 256 (by omega)).at0 hx hp).k ?_
  rintro _ _ ⟨a, rfl, w, rfl, hw0, hw1, hw2, -⟩
  simp -dsimp only [go_sem, ↓reduceIte]
  have e1 : IntKind.i64.wrap (n + 1) = n + 1 := w64 (by omega) (by omega)
  have e2 : (¬ n + 1 = 0) = True := by simp; omega
  simp only [e1, e2, true_and]
  refine hKK1 _ _ ?_
  try clear hKK1 KK1
  refine Lwp_seq fun KK2 hKK2 => ?_
  refine Lwp_seq fun KK3 hKK3 => ?_
  refine LregionG [none, none, none] (by kernel_rfl) (by kernel_rfl) ?_
  simp -dsimp only [go_sem, ↓reduceIte]
  refine ((NextC 2 (by omega)).at0 hx hp).k ?_
  rintro _ _ ⟨a, rfl, z, rfl, hz0, hz1, hz2, -⟩
  simp -dsimp only [go_sem, ↓reduceIte]
  refine hKK3 _ _ ?_
  try clear hKK3 KK3
  refine Lwp_cond (by simp only [go_sem, ↓reduceIte]; rfl) (fun ht => ?_) (fun hf => ?_)
  · skip
    refine Lwp_seq fun KK4 hKK4 => ?_
    refine LregionG [none, none, none] (by kernel_rfl) (by kernel_rfl) ?_
    simp -dsimp only [go_sem, ↓reduceIte]
    repeat with_reducible refine And.intro (by first | omega | decide) ?_
    refine hKK4 _ _ ?_
    try clear hKK4 KK4
    refine Lwp_ret ?_
    simp only [LThen, LBlock, LPost, Tryz.results51]
    simp -dsimp only [go_sem, ↓reduceIte]
    refine ret_codes0 hp (by simp only [go_sem, ↓reduceIte, LV.lt, ltL, ltLL]) ?_
    simp only [go_sem, ↓reduceIte]
    refine hRR _ _ ?_
    exact ⟨_, rfl, w64_range _⟩
  · skip
    refine Lwp_skip ?_
    try simp -dsimp only [go_sem, ↓reduceIte]
    refine hKK2 _ _ ?_
    try clear hKK2 KK2
    refine Lwp_seq fun KK5 hKK5 => ?_
    refine LregionG [none, none] (by kernel_rfl) (by kernel_rfl) ?_
    simp -dsimp only [go_sem, ↓reduceIte]
    repeat with_reducible refine And.intro (by first | omega | decide) ?_
    refine hKK5 _ _ ?_
    try clear hKK5 KK5
    refine Lwp_ret ?_
    simp only [LThen, LBlock, LPost, Tryz.results51]
    simp -dsimp only [go_sem, ↓reduceIte]
    refine ret_codes0 hp (by simp only [go_sem, ↓reduceIte, LV.lt, ltL, ltLL]) ?_
    simp only [go_sem, ↓reduceIte]
    refine hRR _ _ ?_
    exact ⟨_, rfl, tmodI _ (by omega) (by omega)⟩

end Go.Proofs.YtdhngmldmalbbaaGreat
end
section
set_option linter.all false
namespace Go.Proofs.YtdhngmldmalbbaaGreat
open Go.Lift Go.RowKit Go.Store
set_option linter.unusedSimpArgs false
set_option linter.unusedVariables false
set_option maxHeartbeats 400000 in
theorem VectorC (n m : Int) (hn : 0 ≤ n ∧ n ≤ 1000000) (hm : 0 ≤ m ∧ m ≤ 1000000000) : Cds 33 [.int .i64 n, .int .i64 m] (fun r => ∃ (f : Bool) (es : List (List LV)), r = .sl f es ∧ (es.length : Int) = n ∧ ∀ e ∈ es, ok sI e) := by
  refine Cds_intro 1 Tryz.func33 rfl (by kernel_rfl) rfl fun S p fl xs a RR hx hp hRR => ?_
  refine Lwp_seq fun KK0 hKK0 => ?_
  refine LregionG [none] (by kernel_rfl) (by kernel_rfl) ?_
  simp -dsimp only [go_sem, ↓reduceIte]
  repeat with_reducible refine And.intro (by first | omega | decide) ?_
  refine hKK0 _ _ ?_
  try clear hKK0 KK0
  refine Lwp_seq fun KK1 hKK1 => ?_
  refine LregionG [none, none, none, none, none, none, none, none, none, none, none, none, none, none, none, none] (by kernel_rfl) (by kernel_rfl) ?_
  simp -dsimp only [go_sem, ↓reduceIte]
  refine ((SignedC m hm).at0 hx hp).k ?_
  rintro _ _ ⟨a, rfl, v1, rfl, i1⟩
  simp -dsimp only [go_sem, ↓reduceIte]
  refine ((SignedC m hm).at0 hx hp).k ?_
  rintro _ _ ⟨a, rfl, v2, rfl, i2⟩
  simp -dsimp only [go_sem, ↓reduceIte]
  refine ((SignedC m hm).at0 hx hp).k ?_
  rintro _ _ ⟨a, rfl, v3, rfl, i3⟩
  simp -dsimp only [go_sem, ↓reduceIte]
  refine ((SignedC 9 (by omega)).at0 hx hp).k ?_
  rintro _ _ ⟨a, rfl, v4, rfl, i4⟩
  simp -dsimp only [go_sem, ↓reduceIte]
  refine hKK1 _ _ ?_
  try clear hKK1 KK1
  refine Lwp_seq fun KK2 hKK2 => ?_
  refine LregionG [none] (by kernel_rfl) (by kernel_rfl) ?_
  simp -dsimp only [go_sem, ↓reduceIte]
  repeat with_reducible refine And.intro (by first | omega | decide) ?_
  refine hKK2 _ _ ?_
  try clear hKK2 KK2
  refine Lwp_seq fun KK3 hKK3 => ?_
  refine Lwp_seq fun KK4 hKK4 => ?_
  refine LregionG [none] (by kernel_rfl) (by kernel_rfl) ?_
  simp -dsimp only [go_sem, ↓reduceIte]
  repeat with_reducible refine And.intro (by first | omega | decide) ?_
  refine hKK4 _ _ ?_
  try clear hKK4 KK4
  refine Lwp_block ?_
  obtain ⟨l, hl, hlI⟩ : ∃ l : List Int, l = [v1, v2, v3, v4, 0, m, IntKind.i64.wrap (0 - m)] ∧ ∀ x ∈ l, isI x := ⟨_, rfl, by
      simp only [List.mem_cons, List.not_mem_nil, or_false]
      rintro x (rfl | rfl | rfl | rfl | rfl | rfl | rfl)
      · exact i1
      · exact i2
      · exact i3
      · exact i4
      · exact ⟨by omega, by omega⟩
      · exact ⟨by omega, by omega⟩
      · exact w64_range _⟩
  refine Lwp_loopK [0, 1, 7, 8, 9] (fun k us S' => ∃ (a : Nat) (T : LS) (u : LV) (es : List (List LV)) (i : Int), S' = S.set p (some (cb fl xs a)) ++ T ∧ us = [.ptr p 0 0, .int .i64 n, .sl true (l.map fun x => [LV.int .i64 x]), u, .int .i64 i] ∧ RowT S.length T 0 u 1 es ∧ (∀ e ∈ es, ok sI e) ∧ (es.length : Int) = i ∧ 0 ≤ i ∧ i ≤ n ∧ (k : Int) = n - i) n.toNat rfl (⟨a, [], _, [], 0, by simp only [go_sem, ↓reduceIte], by simp only [go_sem, ↓reduceIte, hl], RowT.nil, by simp, rfl, by omega, by omega, by omega⟩) ?_
  rintro k us S2 ⟨a, T, u, es, i, rfl, rfl, hrow, hok, hlen, hi0, hin, hk⟩ II hII
  have hl7 : l.length = 7 := by rw [hl]; rfl
  refine Lwp_seq fun KK5 hKK5 => ?_
  refine Lwp_seq fun KK6 hKK6 => ?_
  refine LregionG [none, none, none] (by kernel_rfl) (by kernel_rfl) ?_
  simp -dsimp only [go_sem, ↓reduceIte]
  repeat with_reducible refine And.intro (by first | omega | decide) ?_
  refine hKK6 _ _ ?_
  try clear hKK6 KK6
  refine Lwp_cond (by simp only [go_sem, ↓reduceIte]; rfl) (fun ht => ?_) (fun hf => ?_)
  · skip
    refine Lwp_skip ?_
    try simp -dsimp only [go_sem, ↓reduceIte]
    refine hKK5 _ _ ?_
    try clear hKK5 KK5
    refine Lwp_seq fun KK7 hKK7 => ?_
    refine Lwp_block ?_
    refine LregionG [none, none, none, none, none, none, none, none, none] (by kernel_rfl) (by kernel_rfl) ?_
    simp -dsimp only [go_sem, ↓reduceIte]
    refine ((NextC 7 (by omega)).at_ hx hp).k ?_
    rintro _ _ ⟨a, rfl, w, rfl, hw0, hw1, hw2, -⟩
    simp -dsimp only [go_sem, ↓reduceIte]
    obtain ⟨y, hy, hy2⟩ := tbl (Q := isI) (w := w) l hw0 (by rw [hl7]; have := hw2 (by omega); omega) hlI
    simp only [hy, hl7, go_sem, ↓reduceIte]
    refine ⟨⟨by omega, by have := hw2 (by omega); omega⟩, ?_⟩
    refine append_own (by simp) hrow rfl (by simp only [go_sem]; rfl) (by simp only [go_sem]; first | exact ⟨rfl, rfl⟩ | exact ⟨rfl, rfl, rfl⟩ | rfl) (by simp only [go_sem]) (by simp only [go_sem, ↓reduceIte]) (by simp only [go_sem, ↓reduceIte]; rfl) (by simp) (.inr (by simp)) (by simp only [LIM, List.length_cons, List.length_nil]; omega) (Nat.zero_le _) fun T' hT' hrow' hpre' => ?_
    clear hrow
    simp -dsimp only [go_sem, ↓reduceIte]
    have hi1 : IntKind.i64.wrap (i + 1) = i + 1 := w64 (by omega) (by simp at ht; omega)
    refine hKK7 _ _ ?_
    try clear hKK7 KK7
    refine LregionG [none, none, none] (by kernel_rfl) (by kernel_rfl) ?_
    simp -dsimp only [go_sem, ↓reduceIte, hi1]
    repeat with_reducible refine And.intro (by first | omega | decide) ?_
    simp at ht
    refine hII (k - 1) _ _ (by omega) ⟨a, T', _, es ++ [[.int .i64 y]], i + 1, rfl, rfl, hrow', ?_, by simp; omega, by omega, by omega, by omega⟩
    intro e he
    rcases List.mem_append.1 he with he | he
    · exact hok e he
    · simp at he; subst he; exact ⟨rfl, hy2.1, hy2.2, trivial⟩
  · skip
    refine Lwp_exit ?_
    simp -dsimp only [go_sem, ↓reduceIte]
    refine hKK3 _ _ ?_
    try clear hKK3 KK3
    refine Lwp_seq fun KK8 hKK8 => ?_
    obtain rfl : i = n := by simp at hf; omega
    refine LregionG [none, none] (by kernel_rfl) (by kernel_rfl) ?_
    simp -dsimp only [go_sem, ↓reduceIte]
    repeat with_reducible refine And.intro (by first | omega | decide) ?_
    refine hKK8 _ _ ?_
    try clear hKK8 KK8
    refine Lwp_ret ?_
    simp only [LThen, LBlock, LPost, Tryz.results33]
    simp -dsimp only [go_sem, ↓reduceIte]
    have hz := hrow.frz1 (A := S.set p (some (cb fl xs a))) (by simp)
    obtain ⟨f, hz⟩ := hz
    refine ret_codes hp (by rw [hz]; exact lt_int fun e he => ok_lt (hok e he)) ?_
    rw [hz]
    refine hRR _ _ ⟨f, es, rfl, hlen, hok⟩

end Go.Proofs.YtdhngmldmalbbaaGreat
end
section
set_option linter.all false
namespace Go.Proofs.YtdhngmldmalbbaaGreat
open Go.Lift Go.RowKit Go.Store
set_option linter.unusedSimpArgs false
set_option linter.unusedVariables false

/-- the readings of a report that was made. -/
def RepOk (us : List LV) : Prop := ∃ (k : Int) (s : ByteArray) (t f x y z : Int) (fl : Bool) (es : List (List LV)), us = [.int .i64 k, .str s, .int .i64 t, .int .i64 f, .int .i64 x, .int .i64 y, .int .i64 z, .sl fl es] ∧
  isI k ∧ s.size ≤ 5 ∧ isI t ∧ isI f ∧ isI x ∧ isI y ∧ isI z ∧ es.length ≤ 2 ∧ ∀ e ∈ es, ok sRd e

set_option maxHeartbeats 400000 in
theorem ReportC : Cds 20 [] (fun r => ∃ us, r = .agg us ∧ RepOk us) := by
  refine Cds_intro 2 Tryz.func20 rfl (by kernel_rfl) rfl fun S p fl xs a RR hx hp hRR => ?_
  refine Lwp_seq fun KK0 hKK0 => ?_
  refine LregionG [none] (by kernel_rfl) (by kernel_rfl) ?_
  simp -dsimp only [go_sem, ↓reduceIte]
  repeat with_reducible refine And.intro (by first | omega | decide) ?_
  refine hKK0 _ _ ?_
  try clear hKK0 KK0
  refine Lwp_seq fun KK1 hKK1 => ?_
  refine LregionG [none, none, none, none, none, none, none, none, none, none, none] (by kernel_rfl) (by kernel_rfl) ?_
  simp -dsimp only [go_sem, ↓reduceIte]
  refine (IntC.at_ hx hp).k ?_
  rintro _ _ ⟨a, rfl, k, rfl, ik⟩
  simp -dsimp only [go_sem, ↓reduceIte]
  refine (NameC.at_ hx hp).k ?_
  rintro _ _ ⟨a, rfl, s, rfl, is⟩
  simp -dsimp only [go_sem, ↓reduceIte]
  refine (IntC.at_ hx hp).k ?_
  rintro _ _ ⟨a, rfl, t, rfl, it⟩
  simp -dsimp only [go_sem, ↓reduceIte]
  refine (PlaceC.at_ hx hp).k ?_
  rintro _ _ ⟨a, rfl, f, x, y, z, rfl, jf, jx, jy, jz⟩
  simp -dsimp only [go_sem, ↓reduceIte]
  refine hKK1 _ _ ?_
  try clear hKK1 KK1
  refine Lwp_seq fun KK2 hKK2 => ?_
  refine Lwp_seq fun KK3 hKK3 => ?_
  refine LregionG [none, none, none] (by kernel_rfl) (by kernel_rfl) ?_
  simp -dsimp only [go_sem, ↓reduceIte]
  refine ((NextC 3 (by omega)).at_ hx hp).k ?_
  rintro _ _ ⟨a, rfl, n, rfl, hn0, hn1, hn2, -⟩
  simp -dsimp only [go_sem, ↓reduceIte]
  refine hKK3 _ _ ?_
  try clear hKK3 KK3
  refine Lwp_block ?_
  refine Lwp_loopK [0, 2, 3, 4] (fun m us S' => ∃ (a : Nat) (T : LS) (u : LV) (es : List (List LV)) (i : Int), S' = S.set p (some (cb fl xs a)) ++ T ∧ us = [.ptr p 0 0, .ptr S.length 0 0, .ptr (S.length + 1) 0 0, .int .i64 i] ∧ 2 ≤ T.length ∧
      T[0]? = some (some (8, [[.int .i64 0, .str ⟨#[]⟩, .int .i64 0, .int .i64 0, .int .i64 0, .int .i64 0, .int .i64 0, .sl true []]])) ∧
      T[1]? = some (some (8, [[.int .i64 k, .str s, .int .i64 t, .int .i64 f, .int .i64 x, .int .i64 y, .int .i64 z, u]])) ∧ RowT S.length T 2 u 2 es ∧ (∀ e ∈ es, ok sRd e) ∧ (es.length : Int) + i ≤ 2 ∧ 0 ≤ i ∧ (m : Int) = i) n.toNat rfl (⟨a, _, _, [], n, rfl, by simp only [go_sem, ↓reduceIte], by simp only [go_sem, ↓reduceIte], by simp only [go_sem, ↓reduceIte], by simp only [go_sem, ↓reduceIte], RowT.nil, by simp, by have := hn2 (by omega); simp; omega, hn0, by omega⟩) ?_
  rintro mm us S2 ⟨a, T, u, es, i, rfl, rfl, hT, hT0, hT1, hrow, hok, hlen, hi0, hm⟩ II hII
  refine Lwp_seq fun KK4 hKK4 => ?_
  refine Lwp_seq fun KK5 hKK5 => ?_
  refine LregionG [none, none] (by kernel_rfl) (by kernel_rfl) ?_
  simp -dsimp only [go_sem, ↓reduceIte, hT1]
  repeat with_reducible refine And.intro (by first | omega | decide) ?_
  refine hKK5 _ _ ?_
  try clear hKK5 KK5
  refine Lwp_cond (by simp only [go_sem, ↓reduceIte, hT1]; rfl) (fun ht => ?_) (fun hf => ?_)
  · skip
    refine Lwp_skip ?_
    try simp -dsimp only [go_sem, ↓reduceIte, hT1]
    refine hKK4 _ _ ?_
    try clear hKK4 KK4
    refine Lwp_seq fun KK6 hKK6 => ?_
    refine Lwp_block ?_
    refine LdrawE [0,1,2,4,3,5,6,7,8,9,10] [(S.length + 1, (8, [[.int .i64 k, .str s, .int .i64 t, .int .i64 f, .int .i64 x, .int .i64 y, .int .i64 z, u]]))] (some 10) (by kernel_rfl) (by kernel_rfl) (by kernel_rfl) (by kernel_rfl) (by simp only [Watch.holds, List.mem_singleton, forall_eq]; rw [get_setapp]; exact hT1) ?_
    simp -dsimp only [go_sem, ↓reduceIte, hT1, hT1]
    refine ((NextC 12 (by omega)).at_ hx hp).k ?_
    rintro _ _ ⟨a, rfl, e, rfl, he0, he1, he2, -⟩
    simp -dsimp only [go_sem, ↓reduceIte, hT1]
    refine (IntC.at_ hx hp).k ?_
    rintro _ _ ⟨a, rfl, v, rfl, iv⟩
    simp -dsimp only [go_sem, ↓reduceIte, hT1]
    refine append_own (by simp) hrow rfl (by simp only [go_sem]; rfl) (by simp only [go_sem]; first | exact ⟨rfl, rfl⟩ | exact ⟨rfl, rfl, rfl⟩ | rfl) (by simp only [go_sem]) (by simp only [go_sem, ↓reduceIte]) (by simp only [go_sem, ↓reduceIte]; rfl) (by simp) (.inr (by simp)) (by simp only [LIM, List.length_cons, List.length_nil]; omega) (hT) fun T' hT' hrow' hpre' => ?_
    clear hrow
    have hT1' := (hpre' 1 (by omega)).trans hT1
    have hT0' := (hpre' 0 (by omega)).trans hT0
    have hi1 : IntKind.i64.wrap (i - 1) = i - 1 := w64 (by omega) (by omega)
    simp -dsimp only [go_sem, ↓reduceIte, hT1, hT1']
    refine hKK6 _ _ ?_
    try clear hKK6 KK6
    refine LregionG [none, none, none] (by kernel_rfl) (by kernel_rfl) ?_
    simp -dsimp only [go_sem, ↓reduceIte, hT1, hi1]
    repeat with_reducible refine And.intro (by first | omega | decide) ?_
    have ht2 : 0 < i := by simpa using ht
    refine hII (mm - 1) _ _ (by omega) ⟨a, _, _, es ++ [_], i - 1, rfl, rfl, by simp; omega, ?_, ?_, hrow'.mono (Nat.le_refl _) (fun k hk hl => List.getElem?_set_ne (by omega)), ?_, by simp; omega, by omega, by omega⟩
    · rw [List.getElem?_set_ne (by omega)]; exact hT0'
    · rw [List.getElem?_set_self (by omega)]
      simp
    · intro e1 he
      rcases List.mem_append.1 he with he | he
      · exact hok e1 he
      · simp at he; subst he; exact ⟨rfl, by omega, by omega, rfl, iv.1, iv.2, trivial⟩
  · skip
    refine Lwp_exit ?_
    simp -dsimp only [go_sem, ↓reduceIte, hT1]
    refine hKK2 _ _ ?_
    try clear hKK2 KK2
    refine Lwp_seq fun KK7 hKK7 => ?_
    have hs0 : ∀ v, (T.set 0 v)[0]? = some v := fun v => List.getElem?_set_self (by omega)
    refine LregionG [none, none] (by kernel_rfl) (by kernel_rfl) ?_
    simp -dsimp only [go_sem, ↓reduceIte, hT1, hT0, hs0]
    
    refine hKK7 _ _ ?_
    try clear hKK7 KK7
    refine Lwp_ret ?_
    simp only [LThen, LBlock, LPost, Tryz.results20]
    simp -dsimp only [go_sem, ↓reduceIte, hT1, hT0, hs0]
    have hz := (hrow.mono (T' := T.set 0 (some (8, [[.int .i64 k, .str s, .int .i64 t, .int .i64 f, .int .i64 x, .int .i64 y, .int .i64 z, u]]))) (Nat.le_refl _) (fun k hk hl => List.getElem?_set_ne (by omega))).frz1 (A := S.set p (some (cb fl xs a))) (by simp)
    obtain ⟨full, hz⟩ := hz
    refine ret_codes hp (by simp only [go_sem, ↓reduceIte, hz, ltL, LV.lt, lt_int fun e he => ok_lt (hok e he), Bool.and_self]) ?_
    simp only [go_sem, ↓reduceIte, hz]
    exact hRR _ _ ⟨_, rfl, k, s, t, f, x, y, z, full, es, rfl, ik, is, it, jf, jx, jy, jz, by omega, hok⟩

set_option maxHeartbeats 400000 in
theorem New_ok {S : LS} (f0 : Bool) (xs : List UInt8) (m : Int) (hm : 0 ≤ m ∧ m ≤ 1000000) : LCalls Tryz.prog 5 [.sl f0 (xs.map u8c), .int .i64 m] S (fun r S' => ∃ (f : Bool) (ys : List UInt8), ys.length ≤ 1000000 ∧ r = .ptr S.length 0 0 ∧ S' = S ++ [some (cb f ys 0)]) := by
  refine LCalls_introK 0 Tryz.func5 rfl (by kernel_rfl) rfl fun RR hRR => ?_
  refine Lwp_seq fun KK0 hKK0 => ?_
  refine LregionG [none] (by kernel_rfl) (by kernel_rfl) ?_
  simp -dsimp only [go_sem, ↓reduceIte]
  repeat with_reducible refine And.intro (by first | omega | decide) ?_
  refine hKK0 _ _ ?_
  try clear hKK0 KK0
  refine Lwp_seq fun KK1 hKK1 => ?_
  refine Lwp_seq fun KK2 hKK2 => ?_
  refine LregionG [none, none, none, none] (by kernel_rfl) (by kernel_rfl) ?_
  simp -dsimp only [go_sem, ↓reduceIte]
  repeat with_reducible refine And.intro (by first | omega | decide) ?_
  refine hKK2 _ _ ?_
  try clear hKK2 KK2
  refine Lwp_cond (by simp only [go_sem, ↓reduceIte]; rfl) (fun ht => ?_) (fun hf => ?_)
  · skip
    refine LregionG [none, none, none, none] (by kernel_rfl) (by kernel_rfl) ?_
    simp -dsimp only [go_sem, ↓reduceIte]
    have hlt : m < (xs.length : Int) := by simpa using ht
    refine ⟨⟨by omega, by omega, fun e he => ?_⟩, ?_⟩
    · cases xs with
      | nil => simp at he
      | cons x xs => simp at he; subst he; rfl
    simp only [Nat.sub_zero, ← List.map_take, go_sem, ↓reduceIte]
    refine hKK1 _ _ ?_
    try clear hKK1 KK1
    refine Lwp_seq fun KK3 hKK3 => ?_
    refine LregionG [none, none, none, none] (by kernel_rfl) (by kernel_rfl) ?_
    simp -dsimp only [go_sem, ↓reduceIte]
    repeat with_reducible refine And.intro (by first | omega | decide) ?_
    refine hKK3 _ _ ?_
    try clear hKK3 KK3
    refine Lwp_ret ?_
    simp only [LThen, LBlock, LPost, Tryz.results5]
    simp -dsimp only [go_sem, ↓reduceIte]
    refine ret_keep (hRR _ _ ⟨_, xs.take m.toNat, by simp; omega, rfl, rfl⟩)
  · skip
    refine Lwp_skip ?_
    try simp -dsimp only [go_sem, ↓reduceIte]
    refine hKK1 _ _ ?_
    try clear hKK1 KK1
    refine Lwp_seq fun KK4 hKK4 => ?_
    refine LregionG [none, none, none, none] (by kernel_rfl) (by kernel_rfl) ?_
    simp -dsimp only [go_sem, ↓reduceIte]
    repeat with_reducible refine And.intro (by first | omega | decide) ?_
    refine hKK4 _ _ ?_
    try clear hKK4 KK4
    refine Lwp_ret ?_
    simp only [LThen, LBlock, LPost, Tryz.results5]
    simp -dsimp only [go_sem, ↓reduceIte]
    refine ret_keep (hRR _ _ ⟨f0, xs, by simp at hf; omega, rfl, rfl⟩)

end Go.Proofs.YtdhngmldmalbbaaGreat
end
section
set_option linter.all false
namespace Go.Proofs.YtdhngmldmalbbaaGreat
open Go.Lift Go.RowKit Go.Store
set_option linter.unusedSimpArgs false
set_option linter.unusedVariables false

abbrev V (n : Int) : LV := .int .i64 n

/-- a call that reads pure values and gives a pure value. -/
def Pc (f : FuncId) (args : List LV) (R : LV → Prop) : Prop := ∀ S : LS, LCalls Tryz.prog f args S (fun r S' => R r ∧ S = S')

theorem Pc_intro {f : FuncId} {args : List LV} {R : LV → Prop} {fn : Func} {c : Code} (d : Nat) (hf : Tryz.prog.funcs[f]? = some fn) (hb : fn.body = some c) (hg : goT Tryz.prog f = true) (hn : Nat.ble args.length fn.ntmps = true)
    (h : ∀ (S : LS) (RR : LV → LS → Prop), (∀ r, R r → RR r S) → Lwp Tryz.prog fn.ntmps c (LPost Tryz.prog fn d S RR) (argsEnv args) (S ++ [])) : Pc f args R := fun S =>
  LCalls_introK d hf hb hg hn fun RR hRR => by
    have := h S RR fun r hr => hRR r _ ⟨hr, rfl⟩
    rwa [List.append_nil] at this

theorem Pc.k' {f : FuncId} {args : List LV} {R : LV → Prop} (h : Pc f args R) {S : LS} {d : Option Tmp} {K : Env → LS → Prop} {t : Tag K} {env : Env} (hk : ∀ r, R r → K (env.putO d r) S) : LCK Tryz.prog f args S d K t env :=
  (h S).k fun r S' ⟨hr, hS⟩ => hS ▸ hk r hr

/-- the corners of a face. -/
def cor (f : Int) : Int × Int × Int :=
  if f / 5 = 0 then (0, 1 + f % 5, 1 + (f % 5 + 1) % 5) else if f / 5 = 1 then (1 + f % 5, 6 + f % 5, 1 + (f % 5 + 1) % 5) else if f / 5 = 2 then (6 + f % 5, 6 + (f % 5 + 1) % 5, 1 + (f % 5 + 1) % 5) else (11, 6 + (f % 5 + 1) % 5, 6 + f % 5)

theorem cor_ok (f : Int) : (0 ≤ (cor f).1 ∧ (cor f).1 < 12) ∧ (0 ≤ (cor f).2.1 ∧ (cor f).2.1 < 12) ∧ (0 ≤ (cor f).2.2 ∧ (cor f).2.2 < 12) := by
  unfold cor
  split
  · dsimp only; omega
  · split
    · dsimp only; omega
    · split <;> (dsimp only; omega)

def vs (ws : List Int) : List LV := ws.map V
theorem vs_len {ws : List Int} : (vs ws).length = ws.length := by simp [vs]
theorem vs_getD {ws : List Int} {k : Nat} (h : k < ws.length) : (vs ws).getD k .any = V (ws.getD k 0) := by
  rw [List.getD_eq_getElem?_getD, List.getD_eq_getElem?_getD, vs, List.getElem?_map, List.getElem?_eq_getElem h]; rfl
theorem vs_ovr {x : Int} : ∀ {ws : List Int} {k : Nat}, k < ws.length → ovr (vs ws) k [V x] = vs (ws.set k x)
  | [], k, h => by simp at h
  | w :: ws, 0, _ => by simp only [vs, List.map_cons, ovr, List.set_cons_zero]; cases ws <;> rfl
  | w :: ws, k + 1, h => by
    have := vs_ovr (x := x) (ws := ws) (k := k) (by simpa using h)
    simp only [vs, List.map_cons, ovr, List.set_cons_succ] at this ⊢
    rw [this]
theorem vs_frz {S : LS} {n d : Nat} {ws : List Int} : (vs ws).map (frz S n d) = vs ws := by
  simp only [vs, List.map_map]
  exact List.map_congr_left fun x _ => frz_int
theorem vs_lt {n : Nat} {ws : List Int} : ltL n (vs ws) = true := by
  induction ws with
  | nil => rfl
  | cons w ws ih => simp only [vs, List.map_cons, ltL, LV.lt, Bool.true_and] at ih ⊢; exact ih
def wz : List Int := List.replicate 12 0
theorem wz_len : wz.length = 12 := rfl
theorem vs_take {ws : List Int} {n : Nat} (h : ws.length = n) : (vs ws).take n = vs ws := List.take_of_length_le (by rw [vs_len, h]; exact Nat.le_refl _)
theorem ovr_all : ∀ {cs us : List LV}, us.length = cs.length → ovr cs 0 us = us
  | [], us, _ => rfl
  | c :: cs, [], h => by simp at h
  | c :: cs, u :: us, h => by simp only [ovr]; rw [ovr_all (by simpa using h)]
theorem wz_vs : [V 0, V 0, V 0, V 0, V 0, V 0, V 0, V 0, V 0, V 0, V 0, V 0] = vs wz := rfl

/-- the weights of a place. -/
def wts (f a b c : Int) : List Int := ((wz.set (cor f).1.toNat a).set (cor f).2.1.toNat b).set (cor f).2.2.toNat c
theorem wts_len {f a b c : Int} : (wts f a b c).length = 12 := by simp [wts, wz]

set_option maxHeartbeats 400000 in
theorem Corners_ok (f : Int) (h0 : 0 ≤ f) (h1 : f < 20) : Pc 96 [V f] (fun r => r = .tup [.agg [V (cor f).1, V (cor f).2.1, V (cor f).2.2], V 0]) := by
  refine Pc_intro 2 Tryz.func96 rfl (by kernel_rfl) rfl fun S RR hRR => ?_
  have e1 : decide (f < 0) = false := by simp; omega
  have e2 : decide (20 ≤ f) = false := by simp; omega
  have e3 : f.tmod 5 = f % 5 := Int.tmod_eq_emod_of_nonneg h0
  have e4 : (f % 5 + 1).tmod 5 = (f % 5 + 1) % 5 := Int.tmod_eq_emod_of_nonneg (by omega)
  have e5 : f.tdiv 5 = f / 5 := Int.tdiv_eq_ediv_of_nonneg h0
  have w0 : IntKind.i64.wrap (f / 5) = f / 5 := w64 (by omega) (by omega)
  have w1 : IntKind.i64.wrap (f % 5 + 1) = f % 5 + 1 := w64 (by omega) (by omega)
  have w2 : IntKind.i64.wrap (1 + f % 5) = 1 + f % 5 := w64 (by omega) (by omega)
  have w3 : IntKind.i64.wrap (1 + (f % 5 + 1) % 5) = 1 + (f % 5 + 1) % 5 := w64 (by omega) (by omega)
  have w4 : IntKind.i64.wrap (6 + f % 5) = 6 + f % 5 := w64 (by omega) (by omega)
  have w5 : IntKind.i64.wrap (6 + (f % 5 + 1) % 5) = 6 + (f % 5 + 1) % 5 := w64 (by omega) (by omega)
  refine Lwp_seq fun KK0 hKK0 => ?_
  refine LregionG [none, none] (by kernel_rfl) (by kernel_rfl) ?_
  simp -dsimp only [go_sem, ↓reduceIte, e1, e2, e3, e4, e5, w0, w1, w2, w3, w4, w5]
  repeat with_reducible refine And.intro (by first | omega | decide) ?_
  refine hKK0 _ _ ?_
  try clear hKK0 KK0
  refine Lwp_seq fun KK1 hKK1 => ?_
  refine Lwp_seq fun KK2 hKK2 => ?_
  refine LregionG [none, none, none, some (8, false), some (8, false), none] (by kernel_rfl) (by kernel_rfl) ?_
  simp -dsimp only [go_sem, ↓reduceIte, e1, e2, e3, e4, e5, w0, w1, w2, w3, w4, w5]
  repeat with_reducible refine And.intro (by first | omega | decide) ?_
  refine hKK2 _ _ ?_
  try clear hKK2 KK2
  refine Lwp_cond (by simp only [go_sem, ↓reduceIte, e1, e2, e3, e4, e5, w0, w1, w2, w3, w4, w5]; rfl) (fun ht => ?_) (fun hf => ?_)
  · skip
    cases ht
  · skip
    refine Lwp_skip ?_
    try simp -dsimp only [go_sem, ↓reduceIte, e1, e2, e3, e4, e5, w0, w1, w2, w3, w4, w5]
    refine hKK1 _ _ ?_
    try clear hKK1 KK1
    refine Lwp_seq fun KK3 hKK3 => ?_
    refine LregionG [none, none, none] (by kernel_rfl) (by kernel_rfl) ?_
    simp -dsimp only [go_sem, ↓reduceIte, e1, e2, e3, e4, e5, w0, w1, w2, w3, w4, w5]
    repeat with_reducible refine And.intro (by first | omega | decide) ?_
    refine hKK3 _ _ ?_
    try clear hKK3 KK3
    refine Lwp_seq fun KK4 hKK4 => ?_
    refine LregionG [none, none, none, none] (by kernel_rfl) (by kernel_rfl) ?_
    simp -dsimp only [go_sem, ↓reduceIte, e1, e2, e3, e4, e5, w0, w1, w2, w3, w4, w5]
    repeat with_reducible refine And.intro (by first | omega | decide) ?_
    refine hKK4 _ _ ?_
    try clear hKK4 KK4
    refine Lwp_seq fun KK5 hKK5 => ?_
    refine Lwp_seq fun KK6 hKK6 => ?_
    refine LregionG [none, none] (by kernel_rfl) (by kernel_rfl) ?_
    simp -dsimp only [go_sem, ↓reduceIte, e1, e2, e3, e4, e5, w0, w1, w2, w3, w4, w5]
    repeat with_reducible refine And.intro (by first | omega | decide) ?_
    refine hKK6 _ _ ?_
    try clear hKK6 KK6
    refine Lwp_block ?_
    refine Lwp_seq fun KK7 hKK7 => ?_
    refine LregionG [none, none] (by kernel_rfl) (by kernel_rfl) ?_
    simp -dsimp only [go_sem, ↓reduceIte, e1, e2, e3, e4, e5, w0, w1, w2, w3, w4, w5]
    repeat with_reducible refine And.intro (by first | omega | decide) ?_
    refine hKK7 _ _ ?_
    try clear hKK7 KK7
    refine Lwp_cond (by simp only [go_sem, ↓reduceIte, e1, e2, e3, e4, e5, w0, w1, w2, w3, w4, w5]; rfl) (fun ht => ?_) (fun hf => ?_)
    · skip
      refine Lwp_seq fun KK8 hKK8 => ?_
      refine LregionG [none, none, none, none, none, none, none] (by kernel_rfl) (by kernel_rfl) ?_
      simp -dsimp only [go_sem, ↓reduceIte, e1, e2, e3, e4, e5, w0, w1, w2, w3, w4, w5]
      repeat with_reducible refine And.intro (by first | omega | decide) ?_
      refine hKK8 _ _ ?_
      try clear hKK8 KK8
      refine Lwp_ret ?_
      simp only [LThen, LBlock, LPost, Tryz.results96]
      simp -dsimp only [go_sem, ↓reduceIte, e1, e2, e3, e4, e5, w0, w1, w2, w3, w4, w5]
      refine ret_app (by simp only [go_sem, ↓reduceIte, LV.lt, ltL, ltLL, vs_frz, vs_lt, Bool.and_self]) ?_
      simp only [go_sem, ↓reduceIte, vs_frz]
      refine hRR _ ?_
      have ht : f / 5 = 0 := by simpa using ht
      simp only [cor, ht, if_true]
    · skip
      have hf0 : ¬ f / 5 = 0 := by simpa using hf
      refine Lwp_seq fun KK9 hKK9 => ?_
      refine LregionG [none, none] (by kernel_rfl) (by kernel_rfl) ?_
      simp -dsimp only [go_sem, ↓reduceIte, e1, e2, e3, e4, e5, w0, w1, w2, w3, w4, w5]
      repeat with_reducible refine And.intro (by first | omega | decide) ?_
      refine hKK9 _ _ ?_
      try clear hKK9 KK9
      refine Lwp_cond (by simp only [go_sem, ↓reduceIte, e1, e2, e3, e4, e5, w0, w1, w2, w3, w4, w5]; rfl) (fun ht => ?_) (fun hf => ?_)
      · skip
        refine Lwp_seq fun KK10 hKK10 => ?_
        refine LregionG [none, none, none, none, none, none, none, none, none] (by kernel_rfl) (by kernel_rfl) ?_
        simp -dsimp only [go_sem, ↓reduceIte, e1, e2, e3, e4, e5, w0, w1, w2, w3, w4, w5]
        repeat with_reducible refine And.intro (by first | omega | decide) ?_
        refine hKK10 _ _ ?_
        try clear hKK10 KK10
        refine Lwp_ret ?_
        simp only [LThen, LBlock, LPost, Tryz.results96]
        simp -dsimp only [go_sem, ↓reduceIte, e1, e2, e3, e4, e5, w0, w1, w2, w3, w4, w5]
        refine ret_app (by simp only [go_sem, ↓reduceIte, LV.lt, ltL, ltLL, vs_frz, vs_lt, Bool.and_self]) ?_
        simp only [go_sem, ↓reduceIte, vs_frz]
        refine hRR _ ?_
        have ht : f / 5 = 1 := by simpa using ht
        simp [cor, ht]
      · skip
        have hf1 : ¬ f / 5 = 1 := by simpa using hf
        refine Lwp_seq fun KK11 hKK11 => ?_
        refine LregionG [none, none] (by kernel_rfl) (by kernel_rfl) ?_
        simp -dsimp only [go_sem, ↓reduceIte, e1, e2, e3, e4, e5, w0, w1, w2, w3, w4, w5]
        repeat with_reducible refine And.intro (by first | omega | decide) ?_
        refine hKK11 _ _ ?_
        try clear hKK11 KK11
        refine Lwp_cond (by simp only [go_sem, ↓reduceIte, e1, e2, e3, e4, e5, w0, w1, w2, w3, w4, w5]; rfl) (fun ht => ?_) (fun hf => ?_)
        · skip
          refine Lwp_seq fun KK12 hKK12 => ?_
          refine LregionG [none, none, none, none, none, none, none, none, none] (by kernel_rfl) (by kernel_rfl) ?_
          simp -dsimp only [go_sem, ↓reduceIte, e1, e2, e3, e4, e5, w0, w1, w2, w3, w4, w5]
          repeat with_reducible refine And.intro (by first | omega | decide) ?_
          refine hKK12 _ _ ?_
          try clear hKK12 KK12
          refine Lwp_ret ?_
          simp only [LThen, LBlock, LPost, Tryz.results96]
          simp -dsimp only [go_sem, ↓reduceIte, e1, e2, e3, e4, e5, w0, w1, w2, w3, w4, w5]
          refine ret_app (by simp only [go_sem, ↓reduceIte, LV.lt, ltL, ltLL, vs_frz, vs_lt, Bool.and_self]) ?_
          simp only [go_sem, ↓reduceIte, vs_frz]
          refine hRR _ ?_
          have ht : f / 5 = 2 := by simpa using ht
          simp [cor, ht]
        · skip
          have hf2 : ¬ f / 5 = 2 := by simpa using hf
          refine Lwp_skip ?_
          try simp -dsimp only [go_sem, ↓reduceIte, e1, e2, e3, e4, e5, w0, w1, w2, w3, w4, w5]
          refine hKK5 _ _ ?_
          try clear hKK5 KK5
          refine Lwp_seq fun KK13 hKK13 => ?_
          refine LregionG [none, none, none, none, none, none, none] (by kernel_rfl) (by kernel_rfl) ?_
          simp -dsimp only [go_sem, ↓reduceIte, e1, e2, e3, e4, e5, w0, w1, w2, w3, w4, w5]
          repeat with_reducible refine And.intro (by first | omega | decide) ?_
          refine hKK13 _ _ ?_
          try clear hKK13 KK13
          refine Lwp_ret ?_
          simp only [LThen, LBlock, LPost, Tryz.results96]
          simp -dsimp only [go_sem, ↓reduceIte, e1, e2, e3, e4, e5, w0, w1, w2, w3, w4, w5]
          refine ret_app (by simp only [go_sem, ↓reduceIte, LV.lt, ltL, ltLL, vs_frz, vs_lt, Bool.and_self]) ?_
          simp only [go_sem, ↓reduceIte, vs_frz]
          refine hRR _ ?_
          simp only [cor, hf0, hf1, hf2, if_false]

set_option maxHeartbeats 400000 in
theorem Weights_ok (f a b c : Int) (h0 : 0 ≤ f) (h1 : f < 20) : Pc 94 [.agg [V f, V a, V b, V c]] (fun r => r = .agg (vs (wts f a b c))) := by
  refine Pc_intro 2 Tryz.func94 rfl (by kernel_rfl) rfl fun S RR hRR => ?_
  refine Lwp_seq fun KK0 hKK0 => ?_
  refine LregionG [none, none] (by kernel_rfl) (by kernel_rfl) ?_
  simp -dsimp only [go_sem, ↓reduceIte]
  repeat with_reducible refine And.intro (by first | omega | decide) ?_
  refine hKK0 _ _ ?_
  try clear hKK0 KK0
  refine Lwp_seq fun KK1 hKK1 => ?_
  refine LregionG [none] (by kernel_rfl) (by kernel_rfl) ?_
  simp -dsimp only [go_sem, ↓reduceIte]
  repeat with_reducible refine And.intro (by first | omega | decide) ?_
  refine hKK1 _ _ ?_
  try clear hKK1 KK1
  refine Lwp_seq fun KK2 hKK2 => ?_
  refine LregionG [none, none, none, none, none, none, none, none, none] (by kernel_rfl) (by kernel_rfl) ?_
  simp -dsimp only [go_sem, ↓reduceIte]
  refine (Corners_ok f h0 h1).k' ?_
  rintro _ rfl
  simp -dsimp only [go_sem, ↓reduceIte]
  refine hKK2 _ _ ?_
  try clear hKK2 KK2
  refine Lwp_seq fun KK3 hKK3 => ?_
  simp only [wz_vs]
  obtain ⟨⟨c00, c01⟩, ⟨c10, c11⟩, ⟨c20, c21⟩⟩ := cor_ok f
  have o1 : ovr (vs wz) (cor f).1.toNat [V a] = vs (wz.set (cor f).1.toNat a) := vs_ovr (by simp [wz]; omega)
  have o2 : ovr (vs (wz.set (cor f).1.toNat a)) (cor f).2.1.toNat [V b] = vs ((wz.set (cor f).1.toNat a).set (cor f).2.1.toNat b) := vs_ovr (by simp [wz]; omega)
  have o3 : ovr (vs ((wz.set (cor f).1.toNat a).set (cor f).2.1.toNat b)) (cor f).2.2.toNat [V c] = vs (wts f a b c) := vs_ovr (by simp [wz]; omega)
  have o4 : (vs (wts f a b c)).take 12 = vs (wts f a b c) := vs_take wts_len
  have o5 : ovr (vs wz) 0 (vs (wts f a b c)) = vs (wts f a b c) := ovr_all (by rw [vs_len, vs_len, wts_len, wz_len])
  refine LdrawE [0,1,2,3,4,5,6,7,8,9,10,11,12,13,14,15,16,17] [(S.length, (4, [[V f, V a, V b, V c]])), (S.length + 3, (3, [[V (cor f).1, V (cor f).2.1, V (cor f).2.2]]))] none (by kernel_rfl) (by kernel_rfl) (by kernel_rfl) (by kernel_rfl) (by simp [Watch.holds, get_app]) ?_
  simp -dsimp only [go_sem, ↓reduceIte, List.mem_cons, forall_eq_or_imp, Nat.add_eq_left, Nat.left_eq_add, Nat.add_left_cancel_iff, and_assoc, if_false, if_true, Nat.zero_add, Nat.mul_one, Nat.add_zero, Nat.one_ne_zero, o1, o2, o3, vs_len, List.length_set, wz_len]
  refine ⟨by decide, by decide, by decide, c00, by omega, by omega, c10, by omega, by omega, c20, by omega, by omega, ?_⟩
  refine hKK3 _ _ ?_
  try clear hKK3 KK3
  refine Lwp_seq fun KK4 hKK4 => ?_
  refine LregionG [none, none] (by kernel_rfl) (by kernel_rfl) ?_
  simp -dsimp only [go_sem, ↓reduceIte, o4, o5, vs_len, wts_len, wz_len, Nat.le_refl, Nat.zero_add]
  repeat with_reducible refine And.intro (by first | omega | decide) ?_
  refine hKK4 _ _ ?_
  try clear hKK4 KK4
  refine Lwp_ret ?_
  simp only [LThen, LBlock, LPost, Tryz.results94]
  simp -dsimp only [go_sem, ↓reduceIte, o4, o5, vs_len, wts_len, wz_len, Nat.le_refl, Nat.zero_add]
  refine ret_app (by simp only [go_sem, ↓reduceIte, LV.lt, ltL, ltLL, vs_frz, vs_lt, Bool.and_self]) ?_
  simp only [go_sem, ↓reduceIte, vs_frz]
  refine hRR _ ?_
  rfl


abbrev P4 := Int × Int × Int × Int
def plc (p : P4) : List LV := [V p.1, V p.2.1, V p.2.2.1, V p.2.2.2]
/-- the address of weights on a face. -/
def onQ (w : List Int) (f : Int) : P4 := (f, w.getD (cor f).1.toNat 0, w.getD (cor f).2.1.toNat 0, w.getD (cor f).2.2.toNat 0)
def onB (w : List Int) (f : Int) : Bool := decide ((onQ w f).2.1 + (onQ w f).2.2.1 + (onQ w f).2.2.2 = 840)
def isW (w : List Int) : Prop := w.length = 12 ∧ ∀ x ∈ w, 0 ≤ x ∧ x ≤ 840
theorem getD_of {w : List Int} {Q : Int → Prop} (h : ∀ x ∈ w, Q x) {k : Nat} (hk : k < w.length) : Q (w.getD k 0) := by
  rw [List.getD_eq_getElem?_getD, List.getElem?_eq_getElem hk]; exact h _ (List.getElem_mem hk)

set_option maxHeartbeats 400000 in
theorem On_ok (f : Int) (w : List Int) (h0 : 0 ≤ f) (h1 : f < 20) (hw : isW w) : Pc 95 [V f, .agg (vs w)] (fun r => r = .tup [.agg (plc (onQ w f)), .bool (onB w f)]) := by
  refine Pc_intro 2 Tryz.func95 rfl (by kernel_rfl) rfl fun S RR hRR => ?_
  refine Lwp_seq fun KK0 hKK0 => ?_
  refine LregionG [none, none, none] (by kernel_rfl) (by kernel_rfl) ?_
  simp -dsimp only [go_sem, ↓reduceIte]
  repeat with_reducible refine And.intro (by first | omega | decide) ?_
  refine hKK0 _ _ ?_
  try clear hKK0 KK0
  refine Lwp_seq fun KK1 hKK1 => ?_
  refine LregionG [none, none, none, none, none, none, none, none] (by kernel_rfl) (by kernel_rfl) ?_
  simp -dsimp only [go_sem, ↓reduceIte]
  refine (Corners_ok f h0 h1).k' ?_
  rintro _ rfl
  obtain ⟨⟨c00, c01⟩, ⟨c10, c11⟩, ⟨c20, c21⟩⟩ := cor_ok f
  obtain ⟨hw1, hw2⟩ := hw
  have g0 := getD_of hw2 (k := (cor f).1.toNat) (by omega)
  have g1 := getD_of hw2 (k := (cor f).2.1.toNat) (by omega)
  have g2 := getD_of hw2 (k := (cor f).2.2.toNat) (by omega)
  have o1 : (vs w).getD (cor f).1.toNat .any = V (w.getD (cor f).1.toNat 0) := vs_getD (by omega)
  have o2 : (vs w).getD (cor f).2.1.toNat .any = V (w.getD (cor f).2.1.toNat 0) := vs_getD (by omega)
  have o3 : (vs w).getD (cor f).2.2.toNat .any = V (w.getD (cor f).2.2.toNat 0) := vs_getD (by omega)
  have q1 : IntKind.i64.wrap (w.getD (cor f).1.toNat 0 + w.getD (cor f).2.1.toNat 0) = w.getD (cor f).1.toNat 0 + w.getD (cor f).2.1.toNat 0 := w64 (by omega) (by omega)
  have q2 : IntKind.i64.wrap (w.getD (cor f).1.toNat 0 + w.getD (cor f).2.1.toNat 0 + w.getD (cor f).2.2.toNat 0) = w.getD (cor f).1.toNat 0 + w.getD (cor f).2.1.toNat 0 + w.getD (cor f).2.2.toNat 0 := w64 (by omega) (by omega)
  simp -dsimp only [go_sem, ↓reduceIte]
  refine hKK1 _ _ ?_
  try clear hKK1 KK1
  refine Lwp_seq fun KK2 hKK2 => ?_
  refine LdrawE [0,1,2,3,4,5,6,7,8,9,10,11,12,13,14,15] [(S.length, (12, [vs w])), (S.length + 2, (3, [[V (cor f).1, V (cor f).2.1, V (cor f).2.2]]))] none (by kernel_rfl) (by kernel_rfl) (by kernel_rfl) (by kernel_rfl) (by simp [Watch.holds, get_app, vs_len, hw1]) ?_
  simp -dsimp only [go_sem, ↓reduceIte, List.mem_cons, forall_eq_or_imp, Nat.add_eq_left, Nat.left_eq_add, Nat.add_left_cancel_iff, and_assoc, if_false, if_true, Nat.zero_add, Nat.mul_one, Nat.add_zero, Nat.one_ne_zero, o1, o2, o3, q1, q2, vs_len, hw1]
  refine ⟨by decide, c00, by omega, by omega, by decide, c10, by omega, by omega, by decide, c20, by omega, by omega, ?_⟩
  refine hKK2 _ _ ?_
  try clear hKK2 KK2
  refine Lwp_seq fun KK3 hKK3 => ?_
  refine LdrawE [0,1,2,3,4,5,6,7,8,9,10,11] [(S.length + 3, (4, [[V f, V (w.getD (cor f).1.toNat 0), V (w.getD (cor f).2.1.toNat 0), V (w.getD (cor f).2.2.toNat 0)]]))] none (by kernel_rfl) (by kernel_rfl) (by kernel_rfl) (by kernel_rfl) (by simp [Watch.holds, get_app]) ?_
  simp -dsimp only [go_sem, ↓reduceIte, List.mem_cons, forall_eq_or_imp, Nat.add_eq_left, Nat.left_eq_add, Nat.add_left_cancel_iff, and_assoc, if_false, if_true, Nat.zero_add, Nat.mul_one, Nat.add_zero, Nat.one_ne_zero, o1, o2, o3, q1, q2, vs_len, hw1]
  repeat with_reducible refine And.intro (by first | omega | decide) ?_
  refine hKK3 _ _ ?_
  try clear hKK3 KK3
  refine Lwp_ret ?_
  simp only [LThen, LBlock, LPost, Tryz.results95]
  simp -dsimp only [go_sem, ↓reduceIte, List.mem_cons, forall_eq_or_imp, Nat.add_eq_left, Nat.left_eq_add, Nat.add_left_cancel_iff, and_assoc, if_false, if_true, Nat.zero_add, Nat.mul_one, Nat.add_zero, Nat.one_ne_zero, o1, o2, o3, q1, q2, vs_len, hw1]
  refine ret_app (by simp only [go_sem, ↓reduceIte, LV.lt, ltL, ltLL, vs_frz, vs_lt, Bool.and_self]) ?_
  simp only [go_sem, ↓reduceIte, vs_frz]
  refine hRR _ ?_
  rfl


/-- a valid place. -/
def isP (p : P4) : Prop := (0 ≤ p.1 ∧ p.1 < 20) ∧ (0 ≤ p.2.1 ∧ p.2.1 ≤ 840) ∧ (0 ≤ p.2.2.1 ∧ p.2.2.1 ≤ 840) ∧ (0 ≤ p.2.2.2 ∧ p.2.2.2 ≤ 840) ∧ p.2.1 + p.2.2.1 + p.2.2.2 = 840
abbrev wtp (p : P4) : List Int := wts p.1 p.2.1 p.2.2.1 p.2.2.2
theorem set_all {w : List Int} {Q : Int → Prop} (h : ∀ x ∈ w, Q x) {k : Nat} {a : Int} (ha : Q a) : ∀ x ∈ w.set k a, Q x := fun x hx => by
  rcases List.mem_or_eq_of_mem_set hx with h1 | h1
  · exact h x h1
  · rw [h1]; exact ha
theorem wtp_ok {p : P4} (h : isP p) : isW (wtp p) :=
  ⟨wts_len, set_all (set_all (set_all (by simp [wz]) h.2.1) h.2.2.1) h.2.2.2.1⟩
/-- the addresses of weights. -/
def adr (w : List Int) : Nat → List P4
  | 0 => []
  | k + 1 => bif onB w k then adr w k ++ [onQ w k] else adr w k
def nrm (p : P4) : P4 := (adr (wtp p) 20).headD (0, 0, 0, 0)
theorem adr_len {w : List Int} {k : Nat} : (adr w k).length ≤ k := by
  induction k with
  | zero => simp [adr]
  | succ k ih => simp only [adr]; cases onB w k <;> simp <;> omega
theorem cor_ne (f : Int) : (cor f).1 ≠ (cor f).2.1 ∧ (cor f).1 ≠ (cor f).2.2 ∧ (cor f).2.1 ≠ (cor f).2.2 := by
  unfold cor
  split
  · dsimp only; omega
  · split
    · dsimp only; omega
    · split <;> (dsimp only; omega)
theorem onQ_self {p : P4} : onQ (wtp p) p.1 = p := by
  obtain ⟨f, a, b, c⟩ := p
  obtain ⟨n1, n2, n3⟩ := cor_ne f
  obtain ⟨⟨c00, c01⟩, ⟨c10, c11⟩, ⟨c20, c21⟩⟩ := cor_ok f
  have m1 : (cor f).2.2.toNat ≠ (cor f).1.toNat := by omega
  have m2 : (cor f).2.1.toNat ≠ (cor f).1.toNat := by omega
  have m3 : (cor f).2.2.toNat ≠ (cor f).2.1.toNat := by omega
  have hl : wz.length = 12 := rfl
  simp only [onQ, wts, List.getD_eq_getElem?_getD, Prod.mk.injEq, true_and]
  refine ⟨?_, ?_, ?_⟩
  · rw [List.getElem?_set_ne m1, List.getElem?_set_ne m2, List.getElem?_set_self (by omega)]; rfl
  · rw [List.getElem?_set_ne m3, List.getElem?_set_self (by rw [List.length_set]; omega)]; rfl
  · rw [List.getElem?_set_self (by rw [List.length_set, List.length_set]; omega)]; rfl
theorem adr_ne {p : P4} (h : isP p) {k : Nat} (hk : p.1.toNat < k) : adr (wtp p) k ≠ [] := by
  induction k with
  | zero => omega
  | succ k ih =>
    simp only [adr]
    by_cases e : p.1.toNat = k
    · have e1 : (k : Int) = p.1 := by have := h.1.1; omega
      have : onB (wtp p) k = true := by rw [e1, onB, onQ_self]; simp; exact h.2.2.2.2
      rw [this]; simp
    · have := ih (by omega)
      cases onB (wtp p) k
      · simpa using this
      · simp
theorem adr_isP {w : List Int} (hw : isW w) : ∀ {k : Nat}, k ≤ 20 → ∀ q ∈ adr w k, isP q
  | 0, _, q, hq => by simp [adr] at hq
  | k + 1, hk, q, hq => by
    simp only [adr] at hq
    have old := fun h => adr_isP hw (k := k) (by omega) q h
    cases hb : onB w k with
    | false => rw [hb] at hq; exact old hq
    | true =>
      rw [hb] at hq
      simp only [cond_true, List.mem_append, List.mem_singleton] at hq
      rcases hq with hq | rfl
      · exact old hq
      · obtain ⟨⟨c00, c01⟩, ⟨c10, c11⟩, ⟨c20, c21⟩⟩ := cor_ok (k : Int)
        obtain ⟨hw1, hw2⟩ := hw
        refine ⟨⟨by simp [onQ], by simp [onQ]; omega⟩, getD_of hw2 (by omega), getD_of hw2 (by omega), getD_of hw2 (by omega), by simpa [onB] using hb⟩
theorem nrm_isP {p : P4} (h : isP p) : isP (nrm p) := by
  have h1 := adr_ne h (k := 20) (by have := h.1; omega)
  have h2 := adr_isP (wtp_ok h) (k := 20) (Nat.le_refl _)
  unfold nrm
  cases hl : adr (wtp p) 20 with
  | nil => exact absurd hl h1
  | cons q l => exact h2 q (by rw [hl]; simp)

set_option maxRecDepth 10000 in
set_option maxHeartbeats 400000 in
theorem Valid_ok (p : P4) (h : isP p) : Pc 93 [.agg (plc p)] (fun r => r = .bool true) := by
  refine Pc_intro 1 Tryz.func93 rfl (by kernel_rfl) rfl fun S RR hRR => ?_
  obtain ⟨f, a, b, c⟩ := p
  obtain ⟨⟨h1, h2⟩, ⟨h3, h4⟩, ⟨h5, h6⟩, ⟨h7, h8⟩, h9⟩ := h
  dsimp only at h1 h2 h3 h4 h5 h6 h7 h8 h9
  have q1 : IntKind.i64.wrap (a + b) = a + b := w64 (by omega) (by omega)
  have q2 : IntKind.i64.wrap (a + b + c) = 840 := by rw [h9]; rfl
  have d1 := decide_eq_true h1
  have d2 := decide_eq_true h2
  have d3 := decide_eq_true h3
  have d4 := decide_eq_true h4
  have d5 := decide_eq_true h5
  have d6 := decide_eq_true h6
  have d7 := decide_eq_true h7
  have d8 := decide_eq_true h8
  refine Lwp_seq fun KK0 hKK0 => ?_
  refine LregionG [none, none] (by kernel_rfl) (by kernel_rfl) ?_
  simp -dsimp only [go_sem, ↓reduceIte, plc, q1, q2, d1, d2, d3, d4, d5, d6, d7, d8, decide_true]
  repeat with_reducible refine And.intro (by first | omega | decide) ?_
  refine hKK0 _ _ ?_
  try clear hKK0 KK0
  refine Lwp_seq fun KK1 hKK1 => ?_
  refine LregionG [none, none, none, none, some (6, true), some (6, true), some (6, true), none, none, some (11, true), some (11, true), some (11, true), none, none, some (16, true), some (16, true), some (16, true), none, none, some (21, true), some (21, true), some (21, true), none, none, some (26, true), some (26, true), some (26, true), none, none, some (31, true), some (31, true), some (31, true), none, none, some (36, true), some (36, true), some (36, true), none, none, some (41, true), some (41, true), some (41, true), some (41, true), some (41, true), some (41, true), some (41, true), some (41, true), some (41, true), none, none] (by kernel_rfl) (by kernel_rfl) ?_
  simp -dsimp only [go_sem, ↓reduceIte, plc, q1, q2, d1, d2, d3, d4, d5, d6, d7, d8, decide_true]
  repeat with_reducible refine And.intro (by first | omega | decide) ?_
  refine hKK1 _ _ ?_
  try clear hKK1 KK1
  refine Lwp_ret ?_
  simp only [LThen, LBlock, LPost, Tryz.results93]
  simp -dsimp only [go_sem, ↓reduceIte, plc, q1, q2, d1, d2, d3, d4, d5, d6, d7, d8, decide_true]
  refine ret_app (by simp only [go_sem, ↓reduceIte, LV.lt, ltL, ltLL, vs_frz, vs_lt, Bool.and_self]) ?_
  simp only [go_sem, ↓reduceIte, vs_frz]
  refine hRR _ ?_
  rfl

end Go.Proofs.YtdhngmldmalbbaaGreat
end
section
set_option linter.all false
namespace Go.Proofs.YtdhngmldmalbbaaGreat
open Go.Lift Go.RowKit Go.Store
set_option linter.unusedSimpArgs false
set_option linter.unusedVariables false

theorem lt_plc {n : Nat} {l : List P4} : ltLL n (l.map plc) = true := by
  induction l with
  | nil => rfl
  | cons x l ih => simp only [List.map_cons, ltLL, plc, ltL, LV.lt, Bool.and_self, Bool.true_and] at ih ⊢; exact ih

set_option maxHeartbeats 400000 in
theorem Addresses_ok (p : P4) (h : isP p) : Pc 91 [.agg (plc p)] (fun r => ∃ full, r = .tup [.sl full ((adr (wtp p) 20).map plc), V 0]) := by
  refine Pc_intro 2 Tryz.func91 rfl (by kernel_rfl) rfl fun S RR hRR => ?_
  have hW := wtp_ok h
  have o4 : (vs (wtp p)).take 12 = vs (wtp p) := vs_take wts_len
  have o5 : ovr (vs wz) 0 (vs (wtp p)) = vs (wtp p) := ovr_all (by rw [vs_len, vs_len, wts_len, wz_len])
  refine Lwp_seq fun KK0 hKK0 => ?_
  refine LregionG [none, none, none] (by kernel_rfl) (by kernel_rfl) ?_
  simp -dsimp only [go_sem, ↓reduceIte, plc]
  repeat with_reducible refine And.intro (by first | omega | decide) ?_
  refine hKK0 _ _ ?_
  try clear hKK0 KK0
  refine Lwp_seq fun KK1 hKK1 => ?_
  refine Lwp_seq fun KK2 hKK2 => ?_
  refine LregionG [none, none, none] (by kernel_rfl) (by kernel_rfl) ?_
  simp -dsimp only [go_sem, ↓reduceIte, plc]
  refine (Valid_ok p h).k' ?_
  rintro _ rfl
  simp -dsimp only [go_sem, ↓reduceIte, plc]
  refine hKK2 _ _ ?_
  try clear hKK2 KK2
  refine Lwp_cond (by simp only [go_sem, ↓reduceIte, plc]; rfl) (fun ht => ?_) (fun hf => ?_)
  · skip
    cases ht
  · skip
    refine Lwp_skip ?_
    try simp -dsimp only [go_sem, ↓reduceIte, plc]
    refine hKK1 _ _ ?_
    try clear hKK1 KK1
    refine Lwp_seq fun KK3 hKK3 => ?_
    refine LregionG [none, none, none, none] (by kernel_rfl) (by kernel_rfl) ?_
    simp -dsimp only [go_sem, ↓reduceIte, plc, o4, o5, vs_len, wts_len, wz_len, wz_vs, Nat.le_refl, Nat.zero_add]
    refine (Weights_ok p.1 p.2.1 p.2.2.1 p.2.2.2 h.1.1 h.1.2).k' ?_
    rintro _ rfl
    simp -dsimp only [go_sem, ↓reduceIte, plc, o4, o5, vs_len, wts_len, wz_len, wz_vs, Nat.le_refl, Nat.zero_add]
    refine hKK3 _ _ ?_
    try clear hKK3 KK3
    refine Lwp_seq fun KK4 hKK4 => ?_
    refine LregionG [none] (by kernel_rfl) (by kernel_rfl) ?_
    simp -dsimp only [go_sem, ↓reduceIte, plc, o4, o5, vs_len, wts_len, wz_len, wz_vs, Nat.le_refl, Nat.zero_add]
    repeat with_reducible refine And.intro (by first | omega | decide) ?_
    refine hKK4 _ _ ?_
    try clear hKK4 KK4
    refine Lwp_seq fun KK5 hKK5 => ?_
    refine Lwp_seq fun KK6 hKK6 => ?_
    refine LregionG [none] (by kernel_rfl) (by kernel_rfl) ?_
    simp -dsimp only [go_sem, ↓reduceIte, plc, o4, o5, vs_len, wts_len, wz_len, wz_vs, Nat.le_refl, Nat.zero_add]
    repeat with_reducible refine And.intro (by first | omega | decide) ?_
    refine hKK6 _ _ ?_
    try clear hKK6 KK6
    refine Lwp_block ?_
    refine Lwp_loopK [4, 5, 6] (fun m us S' => ∃ (T : LS) (u : LV) (k : Nat), S' = S ++ T ∧ us = [.ptr (S.length + 1) 0 0, u, V k] ∧ 2 ≤ T.length ∧ T[1]? = some (some (12, [vs (wtp p)])) ∧ RowT S.length T 2 u 4 ((adr (wtp p) k).map plc) ∧ k ≤ 20 ∧ m = 20 - k) 20 rfl (⟨_, _, 0, rfl, by simp only [go_sem, ↓reduceIte, Int.natCast_zero], by simp, rfl, RowT.nil, by omega, by omega⟩) ?_
    rintro m us S2 ⟨T, u, k, rfl, rfl, hT, hT1, hrow, hk, hm⟩ II hII
    refine Lwp_seq fun KK7 hKK7 => ?_
    refine Lwp_seq fun KK8 hKK8 => ?_
    refine LregionG [none, none] (by kernel_rfl) (by kernel_rfl) ?_
    simp -dsimp only [go_sem, ↓reduceIte, plc, o4, o5, vs_len, wts_len, wz_len, wz_vs, Nat.le_refl, Nat.zero_add, hT1]
    repeat with_reducible refine And.intro (by first | omega | decide) ?_
    refine hKK8 _ _ ?_
    try clear hKK8 KK8
    refine Lwp_cond (by simp only [go_sem, ↓reduceIte, plc, o4, o5, vs_len, wts_len, wz_len, wz_vs, Nat.le_refl, Nat.zero_add, hT1]; rfl) (fun ht => ?_) (fun hf => ?_)
    · skip
      refine Lwp_skip ?_
      try simp -dsimp only [go_sem, ↓reduceIte, plc, o4, o5, vs_len, wts_len, wz_len, wz_vs, Nat.le_refl, Nat.zero_add, hT1]
      refine hKK7 _ _ ?_
      try clear hKK7 KK7
      refine Lwp_seq fun KK9 hKK9 => ?_
      refine Lwp_block ?_
      refine Lwp_seq fun KK10 hKK10 => ?_
      refine LregionG [none, none, none, none, none, none, none, none, none] (by kernel_rfl) (by kernel_rfl) ?_
      simp -dsimp only [go_sem, ↓reduceIte, plc, o4, o5, vs_len, wts_len, wz_len, wz_vs, Nat.le_refl, Nat.zero_add, hT1]
      have hk20 : k < 20 := by simp at ht; omega
      have hk1 : IntKind.i64.wrap ((k : Int) + 1) = ((k + 1 : Nat) : Int) := w64 (by omega) (by omega)
      refine (On_ok (k : Int) (wtp p) (by omega) (by omega) hW).k' ?_
      rintro _ rfl
      simp -dsimp only [go_sem, ↓reduceIte, plc, o4, o5, vs_len, wts_len, wz_len, wz_vs, Nat.le_refl, Nat.zero_add, hT1]
      refine hKK10 _ _ ?_
      try clear hKK10 KK10
      refine Lwp_seq fun KK11 hKK11 => ?_
      refine LregionG [none] (by kernel_rfl) (by kernel_rfl) ?_
      simp -dsimp only [go_sem, ↓reduceIte, plc, o4, o5, vs_len, wts_len, wz_len, wz_vs, Nat.le_refl, Nat.zero_add, hT1]
      repeat with_reducible refine And.intro (by first | omega | decide) ?_
      refine hKK11 _ _ ?_
      try clear hKK11 KK11
      refine Lwp_cond (by simp only [go_sem, ↓reduceIte, plc, o4, o5, vs_len, wts_len, wz_len, wz_vs, Nat.le_refl, Nat.zero_add, hT1]; rfl) (fun ht => ?_) (fun hf => ?_)
      · skip
        have hon : onB (wtp p) k = true := ht
        have hrow2 := hrow.mono (T' := T ++ [some (4, [plc (onQ (wtp p) k)])]) (Nat.le_refl _) (fun i _ hl => List.getElem?_append_left hl)
        simp only [plc] at hrow2
        refine LregionG [none, none, none, none, none] (by kernel_rfl) (by kernel_rfl) ?_
        simp -dsimp only [go_sem, ↓reduceIte, plc, o4, o5, vs_len, wts_len, wz_len, wz_vs, Nat.le_refl, Nat.zero_add, hT1]
        refine append_own (by simp) hrow2 rfl (by simp only [go_sem]; rfl) (by simp only [go_sem]; first | exact ⟨rfl, rfl⟩ | exact ⟨rfl, rfl, rfl⟩ | rfl) (by simp only [go_sem]) (by simp only [go_sem, ↓reduceIte]) (by simp only [go_sem, ↓reduceIte]; rfl) (by simp) (.inr (by simp)) (by simp only [LIM, List.length_cons, List.length_nil]; have := adr_len (w := wtp p) (k := k); simp; omega) (by simp; omega) fun T' hT' hrow' hpre' => ?_
        clear hrow2
        simp -dsimp only [go_sem, ↓reduceIte, plc, o4, o5, vs_len, wts_len, wz_len, wz_vs, Nat.le_refl, Nat.zero_add, hT1]
        refine hKK9 _ _ ?_
        try clear hKK9 KK9
        refine LregionG [none, none, none] (by kernel_rfl) (by kernel_rfl) ?_
        simp -dsimp only [go_sem, ↓reduceIte, plc, o4, o5, vs_len, wts_len, wz_len, wz_vs, Nat.le_refl, Nat.zero_add, hT1, hk1]
        repeat with_reducible refine And.intro (by first | omega | decide) ?_
        refine hII (m - 1) _ _ (by omega) ⟨_, _, k + 1, rfl, rfl, by first | omega | (simp at hT'; omega) | (simp; omega), ?_, ?_, by omega, by omega⟩
        · first | exact (List.getElem?_append_left (by omega)).trans hT1 | exact (hpre' 1 (by omega)).trans ((List.getElem?_append_left (by omega)).trans hT1)
        · simp only [adr, hon, cond_true, cond_false, List.map_append, List.map_cons, List.map_nil]
          first | (have hz := hrow'; simp only [List.length_map, List.length_append, List.length_cons, List.length_nil] at hz; exact hz) | exact hrow.mono (Nat.le_refl _) (fun i _ hl => List.getElem?_append_left hl)
      · skip
        have hon : onB (wtp p) k = false := hf
        refine Lwp_skip ?_
        try simp -dsimp only [go_sem, ↓reduceIte, plc, o4, o5, vs_len, wts_len, wz_len, wz_vs, Nat.le_refl, Nat.zero_add, hT1]
        refine hKK9 _ _ ?_
        try clear hKK9 KK9
        refine LregionG [none, none, none] (by kernel_rfl) (by kernel_rfl) ?_
        simp -dsimp only [go_sem, ↓reduceIte, plc, o4, o5, vs_len, wts_len, wz_len, wz_vs, Nat.le_refl, Nat.zero_add, hT1, hk1]
        repeat with_reducible refine And.intro (by first | omega | decide) ?_
        refine hII (m - 1) _ _ (by omega) ⟨_, _, k + 1, rfl, rfl, by first | omega | (simp at hT'; omega) | (simp; omega), ?_, ?_, by omega, by omega⟩
        · first | exact (List.getElem?_append_left (by omega)).trans hT1 | exact (hpre' 1 (by omega)).trans ((List.getElem?_append_left (by omega)).trans hT1)
        · simp only [adr, hon, cond_true, cond_false, List.map_append, List.map_cons, List.map_nil]
          first | (have hz := hrow'; simp only [List.length_map, List.length_append, List.length_cons, List.length_nil] at hz; exact hz) | exact hrow.mono (Nat.le_refl _) (fun i _ hl => List.getElem?_append_left hl)
    · skip
      obtain rfl : k = 20 := by simp at hf; omega
      refine Lwp_exit ?_
      simp -dsimp only [go_sem, ↓reduceIte, plc, o4, o5, vs_len, wts_len, wz_len, wz_vs, Nat.le_refl, Nat.zero_add, hT1]
      refine hKK5 _ _ ?_
      try clear hKK5 KK5
      refine Lwp_seq fun KK12 hKK12 => ?_
      refine LregionG [none, none, none] (by kernel_rfl) (by kernel_rfl) ?_
      simp -dsimp only [go_sem, ↓reduceIte, plc, o4, o5, vs_len, wts_len, wz_len, wz_vs, Nat.le_refl, Nat.zero_add, hT1]
      repeat with_reducible refine And.intro (by first | omega | decide) ?_
      refine hKK12 _ _ ?_
      try clear hKK12 KK12
      refine Lwp_ret ?_
      simp only [LThen, LBlock, LPost, Tryz.results91]
      simp -dsimp only [go_sem, ↓reduceIte, plc, o4, o5, vs_len, wts_len, wz_len, wz_vs, Nat.le_refl, Nat.zero_add, hT1]
      obtain ⟨full, hz⟩ := hrow.frz1 (A := S) rfl
      refine ret_app (by simp only [go_sem, ↓reduceIte, hz, LV.lt, ltL, lt_plc, Bool.and_self]) ?_
      simp only [go_sem, ↓reduceIte, hz]
      exact hRR _ ⟨full, rfl⟩


theorem plc_getD {l : List P4} {k : Nat} (h : k < l.length) : (l.map plc).getD k [] = plc (l.getD k (0, 0, 0, 0)) := by
  rw [List.getD_eq_getElem?_getD, List.getD_eq_getElem?_getD, List.getElem?_map, List.getElem?_eq_getElem h]; rfl
theorem plc_len {p : P4} : (plc p).length = 4 := rfl
theorem plc_take {p : P4} : (plc p).take 4 = plc p := rfl
theorem plc_head {l : List P4} : ∀ e ∈ (l.map plc).head?, e.length = 4 := by
  cases l with
  | nil => simp
  | cons x l => simp [plc]
theorem hd_getD {l : List P4} {d : P4} : l.getD 0 d = l.headD d := by cases l <;> rfl

set_option maxHeartbeats 400000 in
theorem Normal_ok (p : P4) (h : isP p) : Pc 89 [.agg (plc p)] (fun r => r = .tup [.agg (plc (nrm p)), V 0]) := by
  refine Pc_intro 2 Tryz.func89 rfl (by kernel_rfl) rfl fun S RR hRR => ?_
  have hne := adr_ne h (k := 20) (by have := h.1; omega)
  have hlt : 0 < (adr (wtp p) 20).length := List.length_pos_iff.2 hne
  have hg := plc_getD hlt
  rw [hd_getD] at hg
  change _ = plc (nrm p) at hg
  refine Lwp_seq fun KK0 hKK0 => ?_
  refine LregionG [none, none, none] (by kernel_rfl) (by kernel_rfl) ?_
  simp -dsimp only [go_sem, ↓reduceIte, plc]
  repeat with_reducible refine And.intro (by first | omega | decide) ?_
  refine hKK0 _ _ ?_
  try clear hKK0 KK0
  refine Lwp_seq fun KK1 hKK1 => ?_
  refine LregionG [none, none, none, none, none, none, none] (by kernel_rfl) (by kernel_rfl) ?_
  simp -dsimp only [go_sem, ↓reduceIte, plc]
  refine (Addresses_ok p h).k' ?_
  rintro _ ⟨full, rfl⟩
  simp -dsimp only [go_sem, ↓reduceIte, plc]
  refine hKK1 _ _ ?_
  try clear hKK1 KK1
  refine Lwp_seq fun KK2 hKK2 => ?_
  refine Lwp_seq fun KK3 hKK3 => ?_
  refine LregionG [none, none] (by kernel_rfl) (by kernel_rfl) ?_
  simp -dsimp only [go_sem, ↓reduceIte, plc]
  repeat with_reducible refine And.intro (by first | omega | decide) ?_
  refine hKK3 _ _ ?_
  try clear hKK3 KK3
  refine Lwp_cond (by simp only [go_sem, ↓reduceIte, plc]; rfl) (fun ht => ?_) (fun hf => ?_)
  · skip
    cases ht
  · skip
    refine Lwp_skip ?_
    try simp -dsimp only [go_sem, ↓reduceIte, plc]
    refine hKK2 _ _ ?_
    try clear hKK2 KK2
    refine Lwp_seq fun KK4 hKK4 => ?_
    refine LregionG [none, none, none, none, none] (by kernel_rfl) (by kernel_rfl) ?_
    simp -dsimp only [go_sem, ↓reduceIte, plc, List.length_map, hg]
    repeat with_reducible refine And.intro (by first | omega | decide) ?_
    refine hKK4 _ _ ?_
    try clear hKK4 KK4
    refine Lwp_ret ?_
    simp only [LThen, LBlock, LPost, Tryz.results89]
    simp -dsimp only [go_sem, ↓reduceIte, plc, List.length_map, hg]
    refine ret_app (by simp only [go_sem, ↓reduceIte, LV.lt, ltL, ltLL, vs_frz, vs_lt, Bool.and_self]) ?_
    simp only [go_sem, ↓reduceIte, vs_frz]
    refine hRR _ ?_
    rfl

set_option maxHeartbeats 400000 in
theorem Less_ok (p q : P4) : Pc 92 [.agg (plc p), .agg (plc q)] (fun r => r = .bool (if p.1 ≠ q.1 then decide (p.1 < q.1) else if p.2.1 ≠ q.2.1 then decide (p.2.1 < q.2.1) else decide (p.2.2.1 < q.2.2.1))) := by
  refine Pc_intro 1 Tryz.func92 rfl (by kernel_rfl) rfl fun S RR hRR => ?_
  refine Lwp_seq fun KK0 hKK0 => ?_
  refine LregionG [none, none, none] (by kernel_rfl) (by kernel_rfl) ?_
  simp -dsimp only [go_sem, ↓reduceIte, plc]
  repeat with_reducible refine And.intro (by first | omega | decide) ?_
  refine hKK0 _ _ ?_
  try clear hKK0 KK0
  refine Lwp_seq fun KK1 hKK1 => ?_
  refine Lwp_seq fun KK2 hKK2 => ?_
  refine LregionG [none, none, none, none, none] (by kernel_rfl) (by kernel_rfl) ?_
  simp -dsimp only [go_sem, ↓reduceIte, plc]
  repeat with_reducible refine And.intro (by first | omega | decide) ?_
  refine hKK2 _ _ ?_
  try clear hKK2 KK2
  refine Lwp_cond (by simp only [go_sem, ↓reduceIte, plc]; rfl) (fun ht => ?_) (fun hf => ?_)
  · skip
    refine Lwp_seq fun KK3 hKK3 => ?_
    refine LregionG [none, none, none, none, none, none] (by kernel_rfl) (by kernel_rfl) ?_
    simp -dsimp only [go_sem, ↓reduceIte, plc]
    repeat with_reducible refine And.intro (by first | omega | decide) ?_
    refine hKK3 _ _ ?_
    try clear hKK3 KK3
    refine Lwp_ret ?_
    simp only [LThen, LBlock, LPost, Tryz.results92]
    simp -dsimp only [go_sem, ↓reduceIte, plc]
    refine ret_app (by simp only [go_sem, ↓reduceIte, LV.lt, ltL, ltLL, vs_frz, vs_lt, Bool.and_self]) ?_
    simp only [go_sem, ↓reduceIte, vs_frz]
    refine hRR _ ?_
    have ht : p.1 ≠ q.1 := by simpa using ht
    simp only [ht, ne_eq, not_false_eq_true, if_true]
  · skip
    have hf1 : p.1 = q.1 := by simpa using hf
    refine Lwp_skip ?_
    try simp -dsimp only [go_sem, ↓reduceIte, plc]
    refine hKK1 _ _ ?_
    try clear hKK1 KK1
    refine Lwp_seq fun KK4 hKK4 => ?_
    refine Lwp_seq fun KK5 hKK5 => ?_
    refine LregionG [none, none, none, none, none] (by kernel_rfl) (by kernel_rfl) ?_
    simp -dsimp only [go_sem, ↓reduceIte, plc]
    repeat with_reducible refine And.intro (by first | omega | decide) ?_
    refine hKK5 _ _ ?_
    try clear hKK5 KK5
    refine Lwp_cond (by simp only [go_sem, ↓reduceIte, plc]; rfl) (fun ht => ?_) (fun hf => ?_)
    · skip
      refine Lwp_seq fun KK6 hKK6 => ?_
      refine LregionG [none, none, none, none, none, none] (by kernel_rfl) (by kernel_rfl) ?_
      simp -dsimp only [go_sem, ↓reduceIte, plc]
      repeat with_reducible refine And.intro (by first | omega | decide) ?_
      refine hKK6 _ _ ?_
      try clear hKK6 KK6
      refine Lwp_ret ?_
      simp only [LThen, LBlock, LPost, Tryz.results92]
      simp -dsimp only [go_sem, ↓reduceIte, plc]
      refine ret_app (by simp only [go_sem, ↓reduceIte, LV.lt, ltL, ltLL, vs_frz, vs_lt, Bool.and_self]) ?_
      simp only [go_sem, ↓reduceIte, vs_frz]
      refine hRR _ ?_
      have ht : p.2.1 ≠ q.2.1 := by simpa using ht
      simp only [hf1, ht, ne_eq, not_true_eq_false, not_false_eq_true, if_true, if_false]
    · skip
      refine Lwp_skip ?_
      try simp -dsimp only [go_sem, ↓reduceIte, plc]
      refine hKK4 _ _ ?_
      try clear hKK4 KK4
      refine Lwp_seq fun KK7 hKK7 => ?_
      refine LregionG [none, none, none, none, none, none] (by kernel_rfl) (by kernel_rfl) ?_
      simp -dsimp only [go_sem, ↓reduceIte, plc]
      repeat with_reducible refine And.intro (by first | omega | decide) ?_
      refine hKK7 _ _ ?_
      try clear hKK7 KK7
      refine Lwp_ret ?_
      simp only [LThen, LBlock, LPost, Tryz.results92]
      simp -dsimp only [go_sem, ↓reduceIte, plc]
      refine ret_app (by simp only [go_sem, ↓reduceIte, LV.lt, ltL, ltLL, vs_frz, vs_lt, Bool.and_self]) ?_
      simp only [go_sem, ↓reduceIte, vs_frz]
      refine hRR _ ?_
      have hf2 : p.2.1 = q.2.1 := by simpa using hf
      simp only [hf1, hf2, ne_eq, not_true_eq_false, if_false]

set_option maxHeartbeats 400000 in
theorem IsNormal_ok (p : P4) (h : isP p) : Pc 88 [.agg (plc p)] (fun r => r = .bool (decide (p = nrm p))) := by
  refine Pc_intro 1 Tryz.func88 rfl (by kernel_rfl) rfl fun S RR hRR => ?_
  refine Lwp_seq fun KK0 hKK0 => ?_
  refine LregionG [none, none] (by kernel_rfl) (by kernel_rfl) ?_
  simp -dsimp only [go_sem, ↓reduceIte, plc]
  repeat with_reducible refine And.intro (by first | omega | decide) ?_
  refine hKK0 _ _ ?_
  try clear hKK0 KK0
  refine Lwp_seq fun KK1 hKK1 => ?_
  refine LregionG [none, none, none, none, none, none, none, none] (by kernel_rfl) (by kernel_rfl) ?_
  simp -dsimp only [go_sem, ↓reduceIte, plc]
  refine (Normal_ok p h).k' ?_
  rintro _ rfl
  simp -dsimp only [go_sem, ↓reduceIte, plc]
  refine hKK1 _ _ ?_
  try clear hKK1 KK1
  refine Lwp_seq fun KK2 hKK2 => ?_
  refine LregionG [none, none, none, some (12, true), some (12, true), some (12, true), none, none] (by kernel_rfl) (by kernel_rfl) ?_
  simp -dsimp only [go_sem, ↓reduceIte, plc]
  repeat with_reducible refine And.intro (by first | omega | decide) ?_
  refine hKK2 _ _ ?_
  try clear hKK2 KK2
  refine Lwp_ret ?_
  simp only [LThen, LBlock, LPost, Tryz.results88]
  simp -dsimp only [go_sem, ↓reduceIte, plc]
  refine ret_app (by simp only [go_sem, ↓reduceIte, LV.lt, ltL, ltLL, vs_frz, vs_lt, Bool.and_self]) ?_
  simp only [go_sem, ↓reduceIte, vs_frz]
  refine hRR _ ?_
  obtain ⟨a, b, c, d⟩ := p
  obtain ⟨a', b', c', d'⟩ := nrm (a, b, c, d)
  congr 1
  simp only [Prod.mk.injEq, Bool.decide_and]

set_option maxHeartbeats 400000 in
theorem Cell_ok (a b c : Int) (ha : -1 ≤ a ∧ a < 1000000) (hb : -1 ≤ b ∧ b < 1000000) (hc : -1 ≤ c ∧ c < 1000000) : Pc 86 [V a, V b, V c] (fun r => r = .agg [V (min (min a b) c), V (a + b + c - min (min a b) c - max (max a b) c), V (max (max a b) c)]) := by
  refine Pc_intro 1 Tryz.func86 rfl (by kernel_rfl) rfl fun S RR hRR => ?_
  have m1 : (if c < (if b < a then b else a) then c else (if b < a then b else a)) = min (min a b) c := by omega
  have m2 : (if c > (if b > a then b else a) then c else (if b > a then b else a)) = max (max a b) c := by omega
  have w1 : IntKind.i64.wrap (a + b) = a + b := w64 (by omega) (by omega)
  have w2 : IntKind.i64.wrap (a + b + c) = a + b + c := w64 (by omega) (by omega)
  have w3 : IntKind.i64.wrap (a + b + c - min (min a b) c) = a + b + c - min (min a b) c := w64 (by omega) (by omega)
  have w4 : IntKind.i64.wrap (a + b + c - min (min a b) c - max (max a b) c) = a + b + c - min (min a b) c - max (max a b) c := w64 (by omega) (by omega)
  refine Lwp_seq fun KK0 hKK0 => ?_
  refine LregionG [none] (by kernel_rfl) (by kernel_rfl) ?_
  simp -dsimp only [go_sem, ↓reduceIte, m1, m2, w1, w2, w3, w4]
  repeat with_reducible refine And.intro (by first | omega | decide) ?_
  refine hKK0 _ _ ?_
  try clear hKK0 KK0
  refine Lwp_seq fun KK1 hKK1 => ?_
  refine LregionG [none, none, none, none, none, none, none, none, none, none, none, none, none, none, none, none, none, none, none, none, none, none, none, none, none] (by kernel_rfl) (by kernel_rfl) ?_
  simp -dsimp only [go_sem, ↓reduceIte, m1, m2, w1, w2, w3, w4]
  repeat with_reducible refine And.intro (by first | omega | decide) ?_
  refine hKK1 _ _ ?_
  try clear hKK1 KK1
  refine Lwp_ret ?_
  simp only [LThen, LBlock, LPost, Tryz.results86]
  simp -dsimp only [go_sem, ↓reduceIte, m1, m2, w1, w2, w3, w4]
  refine ret_app (by simp only [go_sem, ↓reduceIte, LV.lt, ltL, ltLL, vs_frz, vs_lt, Bool.and_self]) ?_
  simp only [go_sem, ↓reduceIte, vs_frz]
  refine hRR _ ?_
  rfl

set_option maxHeartbeats 400000 in
theorem Count_ok (n : Int) (h1 : 1 ≤ n) (h8 : n ≤ 8) : Pc 73 [V n] (fun r => r = V (10 * n * n + 2)) := by
  refine Pc_intro 1 Tryz.func73 rfl (by kernel_rfl) rfl fun S RR hRR => ?_
  have d1 : decide (n < 1) = false := by simp; omega
  have d2 : decide (8 < n) = false := by simp; omega
  have hnn : n * n ≤ 64 := Int.mul_le_mul h8 h8 (by omega) (by omega)
  have hn0 : 0 ≤ n * n := Int.mul_nonneg (by omega) (by omega)
  have e1 : 10 * n * n = 10 * (n * n) := by rw [Int.mul_assoc]
  have w1 : IntKind.i64.wrap (10 * n) = 10 * n := w64 (by omega) (by omega)
  have w2 : IntKind.i64.wrap (10 * n * n) = 10 * n * n := w64 (by omega) (by omega)
  have w3 : IntKind.i64.wrap (10 * n * n + 2) = 10 * n * n + 2 := w64 (by omega) (by omega)
  refine Lwp_seq fun KK0 hKK0 => ?_
  refine LregionG [none] (by kernel_rfl) (by kernel_rfl) ?_
  simp -dsimp only [go_sem, ↓reduceIte, d1, d2, w1, w2, w3]
  repeat with_reducible refine And.intro (by first | omega | decide) ?_
  refine hKK0 _ _ ?_
  try clear hKK0 KK0
  refine Lwp_seq fun KK1 hKK1 => ?_
  refine Lwp_seq fun KK2 hKK2 => ?_
  refine LregionG [none, none, none, some (5, false), some (5, false), none] (by kernel_rfl) (by kernel_rfl) ?_
  simp -dsimp only [go_sem, ↓reduceIte, d1, d2, w1, w2, w3]
  repeat with_reducible refine And.intro (by first | omega | decide) ?_
  refine hKK2 _ _ ?_
  try clear hKK2 KK2
  refine Lwp_cond (by simp only [go_sem, ↓reduceIte, d1, d2, w1, w2, w3]; rfl) (fun ht => ?_) (fun hf => ?_)
  · skip
    cases ht
  · skip
    refine Lwp_skip ?_
    try simp -dsimp only [go_sem, ↓reduceIte, d1, d2, w1, w2, w3]
    refine hKK1 _ _ ?_
    try clear hKK1 KK1
    refine Lwp_seq fun KK3 hKK3 => ?_
    refine LregionG [none, none, none, none, none, none] (by kernel_rfl) (by kernel_rfl) ?_
    simp -dsimp only [go_sem, ↓reduceIte, d1, d2, w1, w2, w3]
    repeat with_reducible refine And.intro (by first | omega | decide) ?_
    refine hKK3 _ _ ?_
    try clear hKK3 KK3
    refine Lwp_ret ?_
    simp only [LThen, LBlock, LPost, Tryz.results73]
    simp -dsimp only [go_sem, ↓reduceIte, d1, d2, w1, w2, w3]
    refine ret_self (by simp only [go_sem, ↓reduceIte, LV.lt, ltL, ltLL]) ?_
    try simp only [go_sem, ↓reduceIte]
    refine hRR _ ?_
    rfl


def lsP (p q : P4) : Bool := if p.1 ≠ q.1 then decide (p.1 < q.1) else if p.2.1 ≠ q.2.1 then decide (p.2.1 < q.2.1) else decide (p.2.2.1 < q.2.2.1)
abbrev P40 : P4 := (0, 0, 0, 0)
def fnd (l : List P4) (p : P4) : Nat → Nat → Nat → Nat
  | 0, lo, _ => lo
  | n + 1, lo, hi => if lo < hi then bif lsP (l.getD ((lo + hi) / 2) P40) p then fnd l p n ((lo + hi) / 2 + 1) hi else fnd l p n lo ((lo + hi) / 2) else lo
def find (l : List P4) (p : P4) : Int := if fnd l p l.length 0 l.length < l.length ∧ l.getD (fnd l p l.length 0 l.length) P40 = p then fnd l p l.length 0 l.length else -1
theorem fnd_done {l : List P4} {p : P4} {n lo hi : Nat} (h : ¬ lo < hi) : fnd l p n lo hi = lo := by cases n <;> simp [fnd, h]
theorem find_le {l : List P4} {p : P4} : -1 ≤ find l p ∧ find l p < max 1 l.length := by
  unfold find
  split <;> omega
theorem plc_inj {p q : P4} : (decide (p.1 = q.1) && (decide (p.2.1 = q.2.1) && (decide (p.2.2.1 = q.2.2.1) && decide (p.2.2.2 = q.2.2.2)))) = decide (p = q) := by
  obtain ⟨a, b, c, d⟩ := p
  obtain ⟨a', b', c', d'⟩ := q
  simp only [Prod.mk.injEq, Bool.decide_and]

set_option maxHeartbeats 400000 in
theorem Find_ok (full : Bool) (l : List P4) (p : P4) (hl : l.length ≤ 1000000) : Pc 90 [.sl full (l.map plc), .agg (plc p)] (fun r => r = V (find l p)) := by
  refine Pc_intro 1 Tryz.func90 rfl (by kernel_rfl) rfl fun S RR hRR => ?_
  refine Lwp_seq fun KK0 hKK0 => ?_
  refine LregionG [none, none] (by kernel_rfl) (by kernel_rfl) ?_
  simp -dsimp only [go_sem, ↓reduceIte, plc_len, plc_take]
  repeat with_reducible refine And.intro (by first | omega | decide) ?_
  refine hKK0 _ _ ?_
  try clear hKK0 KK0
  refine Lwp_seq fun KK1 hKK1 => ?_
  refine LregionG [none, none, none, none] (by kernel_rfl) (by kernel_rfl) ?_
  simp -dsimp only [go_sem, ↓reduceIte, plc_len, plc_take]
  repeat with_reducible refine And.intro (by first | omega | decide) ?_
  refine hKK1 _ _ ?_
  try clear hKK1 KK1
  refine Lwp_seq fun KK2 hKK2 => ?_
  refine Lwp_block ?_
  refine Lwp_loopK [0, 3, 5, 6] (fun m us S' => ∃ (lo hi n : Nat), S' = S ++ [some (4, [plc p])] ∧ us = [.sl full (l.map plc), .ptr S.length 0 0, V lo, V hi] ∧ hi ≤ l.length ∧ hi - lo ≤ n ∧ fnd l p n lo hi = fnd l p l.length 0 l.length ∧ m = hi - lo) l.length rfl (⟨0, l.length, l.length, rfl, by simp only [go_sem, ↓reduceIte, Int.natCast_zero], Nat.le_refl _, by omega, rfl, by omega⟩) ?_
  rintro m us S2 ⟨lo, hi, n, rfl, rfl, hhi, hn, hfn, hm⟩ II hII
  refine Lwp_seq fun KK3 hKK3 => ?_
  refine Lwp_seq fun KK4 hKK4 => ?_
  refine LregionG [none, none, none] (by kernel_rfl) (by kernel_rfl) ?_
  simp -dsimp only [go_sem, ↓reduceIte, plc_len, plc_take]
  repeat with_reducible refine And.intro (by first | omega | decide) ?_
  refine hKK4 _ _ ?_
  try clear hKK4 KK4
  refine Lwp_cond (by simp only [go_sem, ↓reduceIte, plc_len, plc_take]; rfl) (fun ht => ?_) (fun hf => ?_)
  · skip
    refine Lwp_skip ?_
    try simp -dsimp only [go_sem, ↓reduceIte, plc_len, plc_take]
    refine hKK3 _ _ ?_
    try clear hKK3 KK3
    refine Lwp_block ?_
    refine Lwp_seq fun KK5 hKK5 => ?_
    refine LregionG [none, none, none, none, none] (by kernel_rfl) (by kernel_rfl) ?_
    simp -dsimp only [go_sem, ↓reduceIte, plc_len, plc_take]
    have hlt : lo < hi := by simpa using ht
    have w1 : IntKind.i64.wrap ((lo : Int) + hi) = (lo : Int) + hi := w64 (by omega) (by omega)
    have w2 : ((lo : Int) + hi).tdiv 2 = (((lo + hi) / 2 : Nat) : Int) := by rw [Int.tdiv_eq_ediv_of_nonneg (by omega)]; omega
    have w3 : IntKind.i64.wrap (((lo + hi) / 2 : Nat) : Int) = (((lo + hi) / 2 : Nat) : Int) := w64 (by omega) (by omega)
    have w4 : IntKind.i64.wrap ((((lo + hi) / 2 : Nat) : Int) + 1) = (((lo + hi) / 2 + 1 : Nat) : Int) := w64 (by omega) (by omega)
    have hmid : (lo + hi) / 2 < l.length := by omega
    have hg := plc_getD hmid
    obtain ⟨k, rfl⟩ : ∃ k, n = k + 1 := ⟨n - 1, by omega⟩
    have hmid1 : lo ≤ (lo + hi) / 2 ∧ (lo + hi) / 2 < hi := ⟨by omega, by omega⟩
    simp only [fnd, hlt, if_true] at hfn
    generalize (lo + hi) / 2 = mid at *
    simp only [w1, w2, w3]
    refine hKK5 _ _ ?_
    try clear hKK5 KK5
    refine Lwp_seq fun KK6 hKK6 => ?_
    refine LdrawE [0,1,2,3,4,5] [(S.length, (4, [plc p]))] none (by kernel_rfl) (by kernel_rfl) (by kernel_rfl) (by kernel_rfl) (by simp [Watch.holds, get_app]) ?_
    simp -dsimp only [go_sem, ↓reduceIte, plc_len, plc_take, hg, List.length_map]
    refine ⟨by omega, ?_⟩
    refine (Less_ok (l.getD mid P40) p).k' ?_
    rintro _ rfl
    simp -dsimp only [go_sem, ↓reduceIte, plc_len, plc_take]
    refine hKK6 _ _ ?_
    try clear hKK6 KK6
    refine Lwp_cond (by simp only [go_sem, ↓reduceIte, plc_len, plc_take]; rfl) (fun ht => ?_) (fun hf => ?_)
    · skip
      have hls : lsP (l.getD mid P40) p = true := ht
      refine LregionG [none, none, none] (by kernel_rfl) (by kernel_rfl) ?_
      simp -dsimp only [go_sem, ↓reduceIte, plc_len, plc_take, w4]
      repeat with_reducible refine And.intro (by first | omega | decide) ?_
      simp only [hls, cond_true, cond_false] at hfn
      first
      | exact hII (hi - (mid + 1)) _ _ (by omega) ⟨mid + 1, hi, k, rfl, rfl, hhi, by omega, hfn, rfl⟩
      | exact hII (mid - lo) _ _ (by omega) ⟨lo, mid, k, rfl, rfl, by omega, by omega, hfn, rfl⟩
    · skip
      have hls : lsP (l.getD mid P40) p = false := hf
      refine LregionG [none, none] (by kernel_rfl) (by kernel_rfl) ?_
      simp -dsimp only [go_sem, ↓reduceIte, plc_len, plc_take]
      repeat with_reducible refine And.intro (by first | omega | decide) ?_
      simp only [hls, cond_true, cond_false] at hfn
      first
      | exact hII (hi - (mid + 1)) _ _ (by omega) ⟨mid + 1, hi, k, rfl, rfl, hhi, by omega, hfn, rfl⟩
      | exact hII (mid - lo) _ _ (by omega) ⟨lo, mid, k, rfl, rfl, by omega, by omega, hfn, rfl⟩
  · skip
    refine Lwp_exit ?_
    simp -dsimp only [go_sem, ↓reduceIte, plc_len, plc_take]
    refine hKK2 _ _ ?_
    try clear hKK2 KK2
    refine Lwp_seq fun KK7 hKK7 => ?_
    refine Lwp_seq fun KK8 hKK8 => ?_
    have hnlt : ¬ lo < hi := by simpa using hf
    rw [fnd_done hnlt] at hfn
    refine LdrawE [0,1,2,3,4,5,6,7,8,9,10,11] [(S.length, (4, [plc p]))] none (by kernel_rfl) (by kernel_rfl) (by kernel_rfl) (by kernel_rfl) (by simp [Watch.holds, get_app]) ?_
    simp -dsimp only [go_sem, ↓reduceIte, plc_len, plc_take]
    by_cases hk : lo < l.length
    · skip
      have hg := plc_getD hk
      simp only [plc] at hg
      simp -dsimp only [go_sem, ↓reduceIte, hk, hg, plc, List.length_map, plc_inj]
      refine hKK8 _ _ ?_
      try clear hKK8 KK8
      refine Lwp_cond (by simp only [go_sem, ↓reduceIte, plc_len, plc_take, hk]; rfl) (fun ht => ?_) (fun hf => ?_)
      · skip
        refine Lwp_seq fun KK9 hKK9 => ?_
        refine LregionG [none, none] (by kernel_rfl) (by kernel_rfl) ?_
        simp -dsimp only [go_sem, ↓reduceIte, plc_len, plc_take, hk]
        repeat with_reducible refine And.intro (by first | omega | decide) ?_
        refine hKK9 _ _ ?_
        try clear hKK9 KK9
        refine Lwp_ret ?_
        simp only [LThen, LBlock, LPost, Tryz.results90]
        simp -dsimp only [go_sem, ↓reduceIte, plc_len, plc_take, hk]
        refine ret_app (by simp only [go_sem, ↓reduceIte, LV.lt, ltL, ltLL, vs_frz, vs_lt, Bool.and_self]) ?_
        simp only [go_sem, ↓reduceIte, vs_frz]
        refine hRR _ ?_
        have ht : l.getD lo P40 = p := by simpa using ht
        rw [find, ← hfn, if_pos ⟨hk, ht⟩]
      · skip
        refine Lwp_skip ?_
        try simp -dsimp only [go_sem, ↓reduceIte, plc_len, plc_take, hk]
        refine hKK7 _ _ ?_
        try clear hKK7 KK7
        refine Lwp_seq fun KK10 hKK10 => ?_
        refine LregionG [none] (by kernel_rfl) (by kernel_rfl) ?_
        simp -dsimp only [go_sem, ↓reduceIte, plc_len, plc_take, hk]
        repeat with_reducible refine And.intro (by first | omega | decide) ?_
        refine hKK10 _ _ ?_
        try clear hKK10 KK10
        refine Lwp_ret ?_
        simp only [LThen, LBlock, LPost, Tryz.results90]
        simp -dsimp only [go_sem, ↓reduceIte, plc_len, plc_take, hk]
        refine ret_app (by simp only [go_sem, ↓reduceIte, LV.lt, ltL, ltLL, vs_frz, vs_lt, Bool.and_self]) ?_
        simp only [go_sem, ↓reduceIte, vs_frz]
        refine hRR _ ?_
        have hne : ¬ l.getD lo P40 = p := by simpa using hf
        rw [find, ← hfn, if_neg (fun h => hne h.2)]
    · skip
      simp -dsimp only [go_sem, ↓reduceIte, hk]
      refine hKK8 _ _ ?_
      try clear hKK8 KK8
      refine Lwp_cond (by simp only [go_sem, ↓reduceIte, plc_len, plc_take, hk]; rfl) (fun ht => ?_) (fun hf => ?_)
      · skip
        cases ht
      · skip
        refine Lwp_skip ?_
        try simp -dsimp only [go_sem, ↓reduceIte, plc_len, plc_take, hk]
        refine hKK7 _ _ ?_
        try clear hKK7 KK7
        refine Lwp_seq fun KK11 hKK11 => ?_
        refine LregionG [none] (by kernel_rfl) (by kernel_rfl) ?_
        simp -dsimp only [go_sem, ↓reduceIte, plc_len, plc_take, hk]
        repeat with_reducible refine And.intro (by first | omega | decide) ?_
        refine hKK11 _ _ ?_
        try clear hKK11 KK11
        refine Lwp_ret ?_
        simp only [LThen, LBlock, LPost, Tryz.results90]
        simp -dsimp only [go_sem, ↓reduceIte, plc_len, plc_take, hk]
        refine ret_app (by simp only [go_sem, ↓reduceIte, LV.lt, ltL, ltLL, vs_frz, vs_lt, Bool.and_self]) ?_
        simp only [go_sem, ↓reduceIte, vs_frz]
        refine hRR _ ?_
        rw [find, ← hfn, if_neg (fun h => hk h.1)]

set_option maxHeartbeats 400000 in
theorem At_ok (full : Bool) (l : List P4) (hl : l.length ≤ 1000000) (f a b : Int) (h : isP (f, a, b, 840 - a - b)) : Pc 87 [.sl full (l.map plc), V f, V a, V b] (fun r => r = V (find l (nrm (f, a, b, 840 - a - b)))) := by
  refine Pc_intro 1 Tryz.func87 rfl (by kernel_rfl) rfl fun S RR hRR => ?_
  obtain ⟨h1, h2, h3, h4, h5⟩ := id h
  dsimp only at h1 h2 h3 h4 h5
  have w1 : IntKind.i64.wrap (840 - a) = 840 - a := w64 (by omega) (by omega)
  have w2 : IntKind.i64.wrap (840 - a - b) = 840 - a - b := w64 (by omega) (by omega)
  have hN := Normal_ok (f, a, b, 840 - a - b) h
  have hF := Find_ok full l (nrm (f, a, b, 840 - a - b)) hl
  simp only [plc] at hN hF
  refine Lwp_seq fun KK0 hKK0 => ?_
  refine LregionG [none] (by kernel_rfl) (by kernel_rfl) ?_
  simp -dsimp only [go_sem, ↓reduceIte, w1, w2]
  repeat with_reducible refine And.intro (by first | omega | decide) ?_
  refine hKK0 _ _ ?_
  try clear hKK0 KK0
  refine Lwp_seq fun KK1 hKK1 => ?_
  refine LregionG [none, none, none, none, none, none, none, none, none, none, none, none, none, none, none] (by kernel_rfl) (by kernel_rfl) ?_
  simp -dsimp only [go_sem, ↓reduceIte, w1, w2]
  refine (hN).k' ?_
  rintro _ rfl
  simp -dsimp only [go_sem, ↓reduceIte, w1, w2]
  refine hKK1 _ _ ?_
  try clear hKK1 KK1
  refine Lwp_seq fun KK2 hKK2 => ?_
  refine LregionG [none, none, none, none] (by kernel_rfl) (by kernel_rfl) ?_
  simp -dsimp only [go_sem, ↓reduceIte, w1, w2]
  refine (hF).k' ?_
  rintro _ rfl
  simp -dsimp only [go_sem, ↓reduceIte, w1, w2]
  refine hKK2 _ _ ?_
  try clear hKK2 KK2
  refine Lwp_ret ?_
  simp only [LThen, LBlock, LPost, Tryz.results87]
  simp -dsimp only [go_sem, ↓reduceIte, w1, w2]
  refine ret_app (by simp only [go_sem, ↓reduceIte, LV.lt, ltL, ltLL, vs_frz, vs_lt, Bool.and_self]) ?_
  simp only [go_sem, ↓reduceIte, vs_frz]
  refine hRR _ ?_
  rfl

end Go.Proofs.YtdhngmldmalbbaaGreat
end
section
set_option linter.all false
namespace Go.Proofs.YtdhngmldmalbbaaGreat
open Go.Lift Go.RowKit Go.Store
set_option linter.unusedSimpArgs false
set_option linter.unusedVariables false

abbrev C3 := Int × Int × Int
def cl3 (c : C3) : List LV := [V c.1, V c.2.1, V c.2.2]
abbrev C30 : C3 := (0, 0, 0)
def ltC (x y : C3) : Bool := decide (x.1 < y.1) || (decide (x.1 = y.1) && (decide (x.2.1 < y.2.1) || (decide (x.2.1 = y.2.1) && decide (x.2.2 < y.2.2))))
def ipos (l : List C3) (x : C3) : Nat → Nat
  | 0 => 0
  | k + 1 => bif ltC x (l.getD k C30) then ipos l x k else k + 1
theorem ipos_le {l : List C3} {x : C3} : ∀ {k : Nat}, ipos l x k ≤ k
  | 0 => Nat.le_refl _
  | k + 1 => by
    simp only [ipos]
    have := ipos_le (l := l) (x := x) (k := k)
    cases ltC x (l.getD k C30) <;> simp <;> omega
/-- ascending cells with one more. -/
def ins (l : List C3) (x : C3) : List C3 := l.take (ipos l x l.length) ++ x :: l.drop (ipos l x l.length)
theorem ins_len {l : List C3} {x : C3} : (ins l x).length = l.length + 1 := by
  have := ipos_le (l := l) (x := x) (k := l.length)
  simp [ins]; omega
theorem ins_copy {l : List C3} {x : C3} {k : Nat} (hk : k ≤ l.length) (hi : ipos l x l.length = k) {c0 : List LV} (h0 : c0.length = 3) : ∃ B, List.take (0 + (k + 1)) (l.map cl3 ++ [c0]) ++ (List.take (min (List.take (l.length + 1 - k) (List.drop (0 + k) (l.map cl3 ++ [c0]))).length (l.length + 1 - (k + 1))) (List.take (l.length + 1 - k) (List.drop (0 + k) (l.map cl3 ++ [c0]))) ++
      List.drop (0 + (k + 1) + min (List.take (l.length + 1 - k) (List.drop (0 + k) (l.map cl3 ++ [c0]))).length (l.length + 1 - (k + 1))) (l.map cl3 ++ [c0])) = B ∧ B.length = l.length + 1 ∧ (B.getD (0 + k) []).length = 3 ∧ B.set (0 + k) (cl3 x) = (ins l x).map cl3 := by
  refine ⟨_, rfl, ?_⟩
  have e1 : List.take (l.length + 1 - k) (List.drop (0 + k) (l.map cl3 ++ [c0])) = (l.drop k).map cl3 ++ [c0] := by
    rw [Nat.zero_add, List.drop_append_of_le_length (by simpa using hk), List.map_drop]
    exact List.take_of_length_le (by simp only [List.length_append, List.length_map, List.length_drop, List.length_cons, List.length_nil]; omega)
  have e2 : min ((l.drop k).map cl3 ++ [c0]).length (l.length + 1 - (k + 1)) = l.length - k := by
    simp only [List.length_append, List.length_map, List.length_drop, List.length_cons, List.length_nil]; omega
  rw [e1, e2]
  have e3 : List.take (l.length - k) ((l.drop k).map cl3 ++ [c0]) = (l.drop k).map cl3 := by
    rw [List.take_append_of_le_length (by simp), List.take_of_length_le (by simp)]
  have e4 : List.drop (0 + (k + 1) + (l.length - k)) (l.map cl3 ++ [c0]) = [] := List.drop_eq_nil_of_le (by
    simp only [List.length_append, List.length_map, List.length_cons, List.length_nil]; omega)
  rw [e3, e4, List.append_nil, Nat.zero_add, Nat.zero_add]
  obtain ⟨z, hz, e5⟩ : ∃ z, z.length = 3 ∧ List.take (k + 1) (l.map cl3 ++ [c0]) = (l.take k).map cl3 ++ [z] := by
    rw [List.take_succ_eq_append_getElem (by simp; omega)]
    refine ⟨_, ?_, by rw [List.take_append_of_le_length (by simpa using hk), List.map_take]⟩
    have : (l.map cl3 ++ [c0])[k]'(by simp; omega) ∈ l.map cl3 ++ [c0] := List.getElem_mem _
    rcases List.mem_append.1 this with h | h
    · obtain ⟨y, _, h⟩ := List.mem_map.1 h
      rw [← h]; rfl
    · rw [List.mem_singleton.1 h]; exact h0
  have hkl : ((l.take k).map cl3).length = k := by simp; omega
  rw [e5, List.append_assoc]
  refine ⟨by simp; omega, ?_, ?_⟩
  · rw [List.getD_eq_getElem?_getD, List.getElem?_append_right (by omega), hkl, Nat.sub_self]; simpa using hz
  · rw [List.set_append_right _ _ (by omega), hkl, Nat.sub_self]
    simp [ins, hi]
theorem cl3_getD {l : List C3} {k : Nat} (h : k < l.length) : (l.map cl3).getD k [] = cl3 (l.getD k C30) := by
  rw [List.getD_eq_getElem?_getD, List.getD_eq_getElem?_getD, List.getElem?_map, List.getElem?_eq_getElem h]; rfl

set_option maxRecDepth 10000 in
set_option maxHeartbeats 400000 in
theorem Insert_ok {S : LS} {id : Nat} (l : List C3) (x : C3) (hS : S[id]? = some (some (3, l.map cl3))) (hl : l.length ≤ 1000000) : LCalls Tryz.prog 85 [.ref id 0 l.length, .agg (cl3 x)] S (fun r S' => ∃ id', r = .ref id' 0 (l.length + 1) ∧ S'[id']? = some (some (3, (ins l x).map cl3)) ∧ Keeps S S' [id] ∧ S.length ≤ id') := by
  refine LCalls_introK 0 Tryz.func85 rfl (by kernel_rfl) rfl fun RR hRR => ?_
  have hid := lt_of_get hS
  have hne1 : (List.length S = id) = False := by simp; omega
  have hS1 : (S ++ [some (3, [cl3 x])])[id]? = some (some (3, l.map cl3)) := get_app_old hS
  simp only [cl3] at hS1
  refine Lwp_seq fun KK0 hKK0 => ?_
  refine LregionG [none, none] (by kernel_rfl) (by kernel_rfl) ?_
  simp -dsimp only [go_sem, ↓reduceIte, cl3, hS1, hS]
  repeat with_reducible refine And.intro (by first | omega | decide) ?_
  refine hKK0 _ _ ?_
  try clear hKK0 KK0
  refine Lwp_seq fun KK1 hKK1 => ?_
  refine LregionG [none, none, none] (by kernel_rfl) (by kernel_rfl) ?_
  simp -dsimp only [go_sem, ↓reduceIte, cl3, hS1, hS]
  repeat with_reducible refine And.intro (by first | omega | decide) ?_
  refine hKK1 _ _ ?_
  try clear hKK1 KK1
  refine Lwp_seq fun KK2 hKK2 => ?_
  refine Lwp_block ?_
  refine Lwp_loopK [0, 3, 5] (fun m us S' => ∃ (k : Nat), S' = S ++ [some (3, [cl3 x])] ∧ us = [.ref id 0 l.length, .ptr S.length 0 0, V k] ∧ k ≤ l.length ∧ ipos l x k = ipos l x l.length ∧ m = k) l.length rfl (⟨l.length, rfl, by simp only [go_sem, ↓reduceIte], Nat.le_refl _, rfl, rfl⟩) ?_
  rintro m us S2 ⟨k, rfl, rfl, hk, hki, hm⟩ II hII
  refine Lwp_seq fun KK3 hKK3 => ?_
  refine Lwp_seqJ [0, 3, 5, 64] (fun us S' => us = [.ref id 0 l.length, .ptr S.length 0 0, V k, .bool (decide (0 < k) && ltC x (l.getD (k - 1) C30))] ∧ S' = S ++ [some (3, [cl3 x])]) rfl (fun KK4 hKK4 => ?_) ?_
  · skip
    refine LdrawE [0,1,2,3,4,5,6,7,8,9,10,11,12,13,14,15,16,17,18,19,20,21,22,23,24,25,26,27,28,29,30,31,32,33,34,35,36,37,38,39,40,41,42,43,44,45,46,47,48,49,50,51,52,53,54,55,56] [(id, (3, l.map cl3)), (S.length, (3, [cl3 x]))] none (by kernel_rfl) (by kernel_rfl) (by kernel_rfl) (by kernel_rfl) (by simp [Watch.holds, get_app, get_app_old hS]) ?_
    simp -dsimp only [go_sem, ↓reduceIte, cl3, hS1, hS]
    by_cases hk0 : (0 : Int) < (k : Int)
    · skip
      have hk1 : k - 1 < l.length := by omega
      have w1 : IntKind.i64.wrap ((k : Int) - 1) = ((k - 1 : Nat) : Int) := by rw [w64 (by omega) (by omega)]; omega
      have hg := cl3_getD hk1
      simp only [cl3] at hg
      obtain ⟨y, hy⟩ : ∃ y, y = l.getD (k - 1) C30 := ⟨_, rfl⟩
      rw [← hy] at hg
      have hg2 : (l.map cl3)[k - 1]? = some [V y.1, V y.2.1, V y.2.2] := by
        rw [List.getElem?_map, List.getElem?_eq_getElem hk1, Option.map_some, hy, List.getD_eq_getElem?_getD, List.getElem?_eq_getElem hk1]; rfl
      have hkn : 0 < k := by omega
      have hT : (decide (0 < k) && ltC x (l.getD (k - 1) C30)) = ltC x y := by rw [← hy]; simp [hkn]
      simp -dsimp only [go_sem, ↓reduceIte, hk0, cl3, hne1, hS, hS1, w1, hg, hg2, List.length_map, Nat.zero_add]
      refine ⟨by omega, ?_⟩
      by_cases q1 : x.1 < y.1
      · have hJ : ltC x y = true := by simp [ltC, q1]
        simp -dsimp only [go_sem, ↓reduceIte, q1, cl3, hne1, hS, hS1, w1, hg, hg2, List.length_map, Nat.zero_add]
        refine hKK4 _ _ ⟨by rw [hT, hJ], rfl⟩
      simp -dsimp only [go_sem, ↓reduceIte, q1, cl3, hne1, hS, hS1, w1, hg, hg2, List.length_map, Nat.zero_add]
      refine ⟨by omega, ?_⟩
      by_cases q2 : x.1 = y.1
      rotate_left
      · have hJ : ltC x y = false := by simp [ltC, q1, q2]
        have d2 := decide_eq_false q2
        simp -dsimp only [go_sem, ↓reduceIte, d2, cl3, hne1, hS, hS1, w1, hg, hg2, List.length_map, Nat.zero_add]
        refine hKK4 _ _ ⟨by rw [hT, hJ], rfl⟩
      have d2 := decide_eq_true q2
      simp -dsimp only [go_sem, ↓reduceIte, d2, cl3, hne1, hS, hS1, w1, hg, hg2, List.length_map, Nat.zero_add]
      refine ⟨by omega, ?_⟩
      by_cases q3 : x.2.1 < y.2.1
      · have hJ : ltC x y = true := by simp [ltC, q2, q3]
        simp -dsimp only [go_sem, ↓reduceIte, q3, cl3, hne1, hS, hS1, w1, hg, hg2, List.length_map, Nat.zero_add]
        refine hKK4 _ _ ⟨by rw [hT, hJ], rfl⟩
      simp -dsimp only [go_sem, ↓reduceIte, q3, cl3, hne1, hS, hS1, w1, hg, hg2, List.length_map, Nat.zero_add]
      refine ⟨by omega, ?_⟩
      by_cases q4 : x.2.1 = y.2.1
      rotate_left
      · have hJ : ltC x y = false := by simp [ltC, q1, q3, q4]
        have d4 := decide_eq_false q4
        simp -dsimp only [go_sem, ↓reduceIte, d4, cl3, hne1, hS, hS1, w1, hg, hg2, List.length_map, Nat.zero_add]
        refine hKK4 _ _ ⟨by rw [hT, hJ], rfl⟩
      have hJ : ltC x y = decide (x.2.2 < y.2.2) := by simp [ltC, q2, q4]
      have d4 := decide_eq_true q4
      simp -dsimp only [go_sem, ↓reduceIte, d4, cl3, hne1, hS, hS1, w1, hg, hg2, List.length_map, Nat.zero_add]
      refine ⟨by omega, ?_⟩
      refine hKK4 _ _ ⟨by rw [hT, hJ], rfl⟩
    · skip
      have hJ : (decide (0 < k) && ltC x (l.getD (k - 1) C30)) = false := by simp; omega
      simp -dsimp only [go_sem, ↓reduceIte, hk0, cl3]
      try simp -dsimp only [go_sem, ↓reduceIte, cl3, hS1, hS]
      refine hKK4 _ _ ?_
      refine ⟨by rw [hJ], rfl⟩
  · rintro us SJ ⟨rfl, rfl⟩
    refine Lwp_cond (by simp only [go_sem, ↓reduceIte, cl3, hS1, hS]; rfl) (fun ht => ?_) (fun hf => ?_)
    · skip
      refine Lwp_skip ?_
      try simp -dsimp only [go_sem, ↓reduceIte, cl3, hS1, hS]
      refine hKK3 _ _ ?_
      try clear hKK3 KK3
      refine Lwp_block ?_
      refine LregionG [none, none, none] (by kernel_rfl) (by kernel_rfl) ?_
      simp -dsimp only [go_sem, ↓reduceIte, cl3, hS1, hS]
      repeat with_reducible refine And.intro (by first | omega | decide) ?_
      simp only [Bool.and_eq_true, decide_eq_true_eq] at ht
      have w1 : IntKind.i64.wrap ((k : Int) - 1) = ((k - 1 : Nat) : Int) := by rw [w64 (by omega) (by omega)]; omega
      obtain ⟨j, rfl⟩ : ∃ j, k = j + 1 := ⟨k - 1, by omega⟩
      simp only [ipos] at hki
      have h2 := ht.2
      simp only [Nat.add_sub_cancel] at h2 w1
      simp only [h2, cond_true] at hki
      refine hII j _ _ (by omega) ⟨j, rfl, by rw [w1], by omega, hki, rfl⟩
    · skip
      refine Lwp_exit ?_
      simp -dsimp only [go_sem, ↓reduceIte, cl3, hS1, hS]
      refine hKK2 _ _ ?_
      try clear hKK2 KK2
      refine Lwp_seq fun KK5 hKK5 => ?_
      have hkf : ipos l x l.length = k := by
        rw [← hki]
        cases k with
        | zero => rfl
        | succ j =>
          simp only [Bool.and_eq_false_iff, decide_eq_false_iff_not, Nat.add_sub_cancel] at hf
          rcases hf with hf | hf
          · omega
          · simp only [ipos, hf, cond_false]
      have hTk : (l.map cl3).take l.length = l.map cl3 := List.take_of_length_le (by simp)
      refine LregionG [none, none, none, none, none] (by kernel_rfl) (by kernel_rfl) ?_
      simp -dsimp only [go_sem, ↓reduceIte, cl3, hS1, hS]
      repeat with_reducible refine And.intro (by first | omega | decide | assumption) ?_
      refine exe_append_of ?_
      simp -dsimp only [go_sem, ↓reduceIte, cl3, hS1, hS, go_sem]
      refine ⟨⟨3, 24, _, ⟨rfl, rfl, rfl⟩, rfl, _, ⟨rfl, rfl⟩, by simp, by simp only [LIM]; omega⟩, ?_⟩
      simp only [set_app_old hS, List.append_assoc, List.cons_append, List.nil_append, hTk]
      refine hKK5 _ _ ?_
      try clear hKK5 KK5
      refine Lwp_seq fun KK6 hKK6 => ?_
      have w2 : IntKind.i64.wrap ((k : Int) + 1) = ((k + 1 : Nat) : Int) := w64 (by omega) (by omega)
      refine LdrawE [0,1,2,3,4,5,6,7] [(S.length + 1, (3, l.map cl3 ++ [cl3 C30]))] (some 7) (by kernel_rfl) (by kernel_rfl) (by kernel_rfl) (by kernel_rfl) (by simp only [Watch.holds, List.mem_singleton, forall_eq]; rw [get_setapp]; rfl) ?_
      simp -dsimp only [go_sem, ↓reduceIte, cl3, hS1, hS, w2]
      refine ⟨⟨by omega, Nat.le_refl _⟩, ⟨by omega, Nat.le_refl _⟩, ⟨by omega, fun f hf => ?_, by omega⟩, ?_⟩
      · rcases List.mem_append.1 (List.mem_of_mem_drop (List.mem_of_mem_take hf)) with hf | hf
        · obtain ⟨y, _, rfl⟩ := List.mem_map.1 hf; rfl
        · rw [List.mem_singleton.1 hf]; rfl
      refine hKK6 _ _ ?_
      try clear hKK6 KK6
      refine Lwp_seq fun KK7 hKK7 => ?_
      obtain ⟨B, hB, hB1, hB2, hB3⟩ := ins_copy (c0 := [V 0, V 0, V 0]) hk hkf rfl
      rw [hB]
      clear hB
      have hB4 : ovr (B.getD (0 + k) []) 0 (cl3 x) = cl3 x := ovr_all (by rw [hB2]; rfl)
      have hB5 : B[0 + k]? = some (B.getD (0 + k) []) := by rw [List.getD_eq_getElem?_getD, List.getElem?_eq_getElem (by omega)]; rfl
      simp only [cl3] at hB3 hB4
      refine LregionG [none, none, none, none, none] (by kernel_rfl) (by kernel_rfl) ?_
      simp -dsimp only [go_sem, ↓reduceIte, cl3, hS1, hS, w2, hB1, hB2, hB3, hB4, hB5, Nat.le_refl]
      repeat with_reducible refine And.intro (by first | omega | decide) ?_
      refine hKK7 _ _ ?_
      try clear hKK7 KK7
      refine Lwp_seq fun KK8 hKK8 => ?_
      refine LregionG [none, none] (by kernel_rfl) (by kernel_rfl) ?_
      simp -dsimp only [go_sem, ↓reduceIte, cl3, hS1, hS, w2, hB1, hB2, hB3, hB4, hB5, Nat.le_refl]
      repeat with_reducible refine And.intro (by first | omega | decide) ?_
      refine hKK8 _ _ ?_
      try clear hKK8 KK8
      refine Lwp_ret ?_
      simp only [LThen, LBlock, LPost, Tryz.results85]
      simp -dsimp only [go_sem, ↓reduceIte, cl3, hS1, hS, w2, hB1, hB2, hB3, hB4, hB5, Nat.le_refl]
      refine ret_keep (hRR _ _ ⟨S.length + 1, rfl, by rw [get_setapp]; rfl, ?_, by omega⟩)
      exact (Keeps.set (ids := [id]) none (by simp)).trans (Keeps.app _ _ []) (fun j _ hj => hj.elim (fun h => h) (fun h => absurd h (by simp)))

end Go.Proofs.YtdhngmldmalbbaaGreat
end
section
set_option linter.all false
namespace Go.Proofs.YtdhngmldmalbbaaGreat
open Go.Lift Go.RowKit Go.Store
set_option linter.unusedSimpArgs false
set_option linter.unusedVariables false

def keepP (p : P4) : Bool := (decide (0 < p.2.1) && decide (0 < p.2.2.1) && decide (0 < p.2.2.2)) || decide (p = nrm p)
def nstep (l : List P4) (p : P4) : List P4 := bif keepP p then l ++ [p] else l
def gpt (h f i j : Nat) : P4 := ((f : Int), ((h * i : Nat) : Int), ((h * j : Nat) : Int), 840 - ((h * i : Nat) : Int) - ((h * j : Nat) : Int))
def rowN (h : Nat) (base : List P4) (f i : Nat) : Nat → List P4
  | 0 => base
  | j + 1 => nstep (rowN h base f i j) (gpt h f i j)
def colN (n h : Nat) (base : List P4) (f : Nat) : Nat → List P4
  | 0 => base
  | i + 1 => rowN h (colN n h base f i) f i (n + 1 - i)
/-- the nodes of a grid. -/
def nds (n h : Nat) : Nat → List P4
  | 0 => []
  | f + 1 => colN n h (nds n h f) f (n + 1)
theorem nstep_len {l : List P4} {p : P4} : (nstep l p).length ≤ l.length + 1 := by unfold nstep; cases keepP p <;> simp
theorem rowN_len {h : Nat} {base : List P4} {f i : Nat} : ∀ {j : Nat}, (rowN h base f i j).length ≤ base.length + j
  | 0 => Nat.le_refl _
  | j + 1 => by
    have h1 := rowN_len (h := h) (base := base) (f := f) (i := i) (j := j)
    have h2 := nstep_len (l := rowN h base f i j) (p := gpt h f i j)
    simp only [rowN]; omega
theorem colN_len {n h : Nat} {base : List P4} {f : Nat} : ∀ {i : Nat}, (colN n h base f i).length ≤ base.length + i * (n + 1)
  | 0 => by simp [colN]
  | i + 1 => by
    have h1 := colN_len (n := n) (h := h) (base := base) (f := f) (i := i)
    have h2 := rowN_len (h := h) (base := colN n h base f i) (f := f) (i := i) (j := n + 1 - i)
    have h3 : (i + 1) * (n + 1) = i * (n + 1) + (n + 1) := Nat.succ_mul _ _
    simp only [colN]; omega
theorem nds_len {n h : Nat} : ∀ {f : Nat}, (nds n h f).length ≤ f * ((n + 1) * (n + 1))
  | 0 => by simp [nds]
  | f + 1 => by
    have h1 := nds_len (n := n) (h := h) (f := f)
    have h2 := colN_len (n := n) (h := h) (base := nds n h f) (f := f) (i := n + 1)
    have h3 : (f + 1) * ((n + 1) * (n + 1)) = f * ((n + 1) * (n + 1)) + (n + 1) * (n + 1) := Nat.succ_mul _ _
    simp only [nds]; omega

set_option maxHeartbeats 400000 in
theorem Nodes_ok (n h : Nat) (h1 : 1 ≤ n) (h8 : n ≤ 8) (hh : h * n = 840) : Pc 84 [V n] (fun r => ∃ full, r = .tup [.sl full ((nds n h 20).map plc), V 0]) := by
  refine Pc_intro 2 Tryz.func84 rfl (by kernel_rfl) rfl fun S RR hRR => ?_
  have hh1 : 1 ≤ h := by
    rcases Nat.eq_zero_or_pos h with e | e
    · rw [e, Nat.zero_mul] at hh; omega
    · exact e
  have hh2 : h ≤ 840 := by have := Nat.mul_le_mul_left h h1; omega
  have hq : (840 : Int).tdiv n = h := by
    have : (840 : Int) = (h : Int) * (n : Int) := by rw [← Int.natCast_mul, hh]; rfl
    rw [this]; exact Int.mul_tdiv_cancel _ (by omega)
  have wq : IntKind.i64.wrap (h : Int) = h := w64 (by omega) (by omega)
  have hn0 : (¬ (n : Int) = 0) = True := by simp; omega
  have hc0 : decide (10 * (n : Int) * n + 2 = 0) = false := by
    have : 0 ≤ (n : Int) * n := Int.mul_nonneg (by omega) (by omega)
    have e1 : 10 * (n : Int) * n = 10 * ((n : Int) * n) := by rw [Int.mul_assoc]
    exact decide_eq_false (by omega)
  refine Lwp_seq fun KK0 hKK0 => ?_
  refine LregionG [none, none] (by kernel_rfl) (by kernel_rfl) ?_
  simp -dsimp only [go_sem, ↓reduceIte]
  repeat with_reducible refine And.intro (by first | omega | decide) ?_
  refine hKK0 _ _ ?_
  try clear hKK0 KK0
  refine Lwp_seq fun KK1 hKK1 => ?_
  refine Lwp_seq fun KK2 hKK2 => ?_
  refine LregionG [none, none, none] (by kernel_rfl) (by kernel_rfl) ?_
  simp -dsimp only [go_sem, ↓reduceIte, hc0]
  refine (Count_ok (n : Int) (by omega) (by omega)).k' ?_
  rintro _ rfl
  simp -dsimp only [go_sem, ↓reduceIte, hc0]
  refine hKK2 _ _ ?_
  try clear hKK2 KK2
  refine Lwp_cond (by simp only [go_sem, ↓reduceIte, hc0]; rfl) (fun ht => ?_) (fun hf => ?_)
  · skip
    cases ht
  · skip
    refine Lwp_skip ?_
    try simp -dsimp only [go_sem, ↓reduceIte, hc0]
    refine hKK1 _ _ ?_
    try clear hKK1 KK1
    refine Lwp_seq fun KK3 hKK3 => ?_
    refine LregionG [none, none, none] (by kernel_rfl) (by kernel_rfl) ?_
    simp -dsimp only [go_sem, ↓reduceIte, hc0, hn0, hq, wq]
    repeat with_reducible refine And.intro (by first | omega | decide) ?_
    refine hKK3 _ _ ?_
    try clear hKK3 KK3
    refine Lwp_seq fun KK4 hKK4 => ?_
    refine LregionG [none] (by kernel_rfl) (by kernel_rfl) ?_
    simp -dsimp only [go_sem, ↓reduceIte, hc0, hn0, hq, wq]
    repeat with_reducible refine And.intro (by first | omega | decide) ?_
    refine hKK4 _ _ ?_
    try clear hKK4 KK4
    refine Lwp_seq fun KK5 hKK5 => ?_
    refine Lwp_seq fun KK6 hKK6 => ?_
    refine LregionG [none] (by kernel_rfl) (by kernel_rfl) ?_
    simp -dsimp only [go_sem, ↓reduceIte, hc0, hn0, hq, wq]
    repeat with_reducible refine And.intro (by first | omega | decide) ?_
    refine hKK6 _ _ ?_
    try clear hKK6 KK6
    refine Lwp_block ?_
    refine Lwp_loopK [0, 4, 5, 6] (fun m us S' => ∃ (T : LS) (u : LV) (f : Nat), S' = S ++ T ∧ us = [V n, V h, u, V f] ∧ RowT S.length T 0 u 4 ((nds n h f).map plc) ∧ f ≤ 20 ∧ m = 20 - f) 20 rfl (⟨[], _, 0, by simp, by simp only [go_sem, ↓reduceIte, Int.natCast_zero], RowT.nil, by omega, by omega⟩) ?_
    rintro m us S2 ⟨T, u, f, rfl, rfl, hrow, hf20, hm⟩ II hII
    refine Lwp_seq fun KK7 hKK7 => ?_
    refine Lwp_seq fun KK8 hKK8 => ?_
    refine LregionG [none, none] (by kernel_rfl) (by kernel_rfl) ?_
    simp -dsimp only [go_sem, ↓reduceIte, hc0, hn0, hq, wq]
    repeat with_reducible refine And.intro (by first | omega | decide) ?_
    refine hKK8 _ _ ?_
    try clear hKK8 KK8
    refine Lwp_cond (by simp only [go_sem, ↓reduceIte, hc0, hn0, hq, wq]; rfl) (fun ht => ?_) (fun hf => ?_)
    · skip
      have hf20 : f < 20 := by simp at ht; omega
      refine Lwp_skip ?_
      try simp -dsimp only [go_sem, ↓reduceIte, hc0, hn0, hq, wq]
      refine hKK7 _ _ ?_
      try clear hKK7 KK7
      refine Lwp_seq fun KK9 hKK9 => ?_
      refine Lwp_block ?_
      refine Lwp_seq fun KK10 hKK10 => ?_
      refine LregionG [none] (by kernel_rfl) (by kernel_rfl) ?_
      simp -dsimp only [go_sem, ↓reduceIte, hc0, hn0, hq, wq]
      repeat with_reducible refine And.intro (by first | omega | decide) ?_
      refine hKK10 _ _ ?_
      try clear hKK10 KK10
      refine Lwp_block ?_
      refine Lwp_loopK [0, 4, 5, 6, 7] (fun m us S' => ∃ (T : LS) (u : LV) (i : Nat), S' = S ++ T ∧ us = [V n, V h, u, V f, V ((h * i : Nat) : Int)] ∧ RowT S.length T 0 u 4 ((colN n h (nds n h f) f i).map plc) ∧ i ≤ n + 1 ∧ m = n + 1 - i) (n + 1) rfl (⟨T, u, 0, rfl, by simp only [go_sem, ↓reduceIte, Nat.mul_zero, Int.natCast_zero], hrow, by omega, by omega⟩) ?_
      rintro m1 us S2 ⟨T, u, i, rfl, rfl, hrow, hi, hm1⟩ II1 hII1
      refine Lwp_seq fun KK11 hKK11 => ?_
      refine Lwp_seq fun KK12 hKK12 => ?_
      refine LregionG [none, none] (by kernel_rfl) (by kernel_rfl) ?_
      simp -dsimp only [go_sem, ↓reduceIte, hc0, hn0, hq, wq]
      repeat with_reducible refine And.intro (by first | omega | decide) ?_
      refine hKK12 _ _ ?_
      try clear hKK12 KK12
      refine Lwp_cond (by simp only [go_sem, ↓reduceIte, hc0, hn0, hq, wq]; rfl) (fun ht => ?_) (fun hf => ?_)
      · skip
        have hi : i ≤ n := by
          simp only [decide_eq_true_eq] at ht
          rcases Nat.lt_or_ge n i with hl | hl
          · have := Nat.mul_le_mul_left h hl
            rw [Nat.mul_succ, hh] at this; omega
          · exact hl
        refine Lwp_skip ?_
        try simp -dsimp only [go_sem, ↓reduceIte, hc0, hn0, hq, wq]
        refine hKK11 _ _ ?_
        try clear hKK11 KK11
        refine Lwp_seq fun KK13 hKK13 => ?_
        refine Lwp_block ?_
        refine Lwp_seq fun KK14 hKK14 => ?_
        refine LregionG [none] (by kernel_rfl) (by kernel_rfl) ?_
        simp -dsimp only [go_sem, ↓reduceIte, hc0, hn0, hq, wq]
        repeat with_reducible refine And.intro (by first | omega | decide) ?_
        refine hKK14 _ _ ?_
        try clear hKK14 KK14
        refine Lwp_block ?_
        refine Lwp_loopK [0, 4, 5, 6, 7, 8] (fun m us S' => ∃ (T : LS) (u : LV) (j : Nat), S' = S ++ T ∧ us = [V n, V h, u, V f, V ((h * i : Nat) : Int), V ((h * j : Nat) : Int)] ∧ RowT S.length T 0 u 4 ((rowN h (colN n h (nds n h f) f i) f i j).map plc) ∧ j ≤ n + 1 - i ∧ m = n + 1 - i - j) (n + 1 - i) rfl (⟨T, u, 0, rfl, by simp only [go_sem, ↓reduceIte, Nat.mul_zero, Int.natCast_zero], hrow, by omega, by omega⟩) ?_
        rintro m2 us S2 ⟨T, u, j, rfl, rfl, hrow, hj, hm2⟩ II2 hII2
        refine Lwp_seq fun KK15 hKK15 => ?_
        refine Lwp_seq fun KK16 hKK16 => ?_
        have hij : h * i + h * j ≤ 1680 := by
          have a1 := Nat.mul_le_mul_left h (show i + j ≤ n + 1 by omega)
          rw [Nat.mul_add, Nat.mul_add, hh] at a1; omega
        have wij : IntKind.i64.wrap (((h * i : Nat) : Int) + ((h * j : Nat) : Int)) = ((h * i : Nat) : Int) + ((h * j : Nat) : Int) := w64 (by omega) (by omega)
        refine LregionG [none, none, none, none] (by kernel_rfl) (by kernel_rfl) ?_
        simp -dsimp only [go_sem, ↓reduceIte, hc0, hn0, hq, wq, wij]
        repeat with_reducible refine And.intro (by first | omega | decide) ?_
        refine hKK16 _ _ ?_
        try clear hKK16 KK16
        refine Lwp_cond (by simp only [go_sem, ↓reduceIte, hc0, hn0, hq, wq, wij]; rfl) (fun ht => ?_) (fun hf => ?_)
        · skip
          have hij2 : h * i + h * j ≤ 840 := by simp only [decide_eq_true_eq] at ht; omega
          have hj : i + j ≤ n := by
            rcases Nat.lt_or_ge n (i + j) with hl | hl
            · have := Nat.mul_le_mul_left h hl
              rw [Nat.mul_succ, Nat.mul_add, hh] at this; omega
            · exact hl
          have wa : IntKind.i64.wrap (840 - ((h * i : Nat) : Int)) = 840 - ((h * i : Nat) : Int) := w64 (by omega) (by omega)
          have wb : IntKind.i64.wrap (840 - ((h * i : Nat) : Int) - ((h * j : Nat) : Int)) = 840 - ((h * i : Nat) : Int) - ((h * j : Nat) : Int) := w64 (by omega) (by omega)
          have wj : IntKind.i64.wrap (((h * j : Nat) : Int) + (h : Int)) = ((h * (j + 1) : Nat) : Int) := by rw [Nat.mul_succ, w64 (by omega) (by omega)]; omega
          have hP : isP (gpt h f i j) := ⟨⟨by simp [gpt], by simp [gpt]; omega⟩, ⟨by simp only [gpt]; omega, by simp only [gpt]; omega⟩, ⟨by simp only [gpt]; omega, by simp only [gpt]; omega⟩, ⟨by simp only [gpt]; omega, by simp only [gpt]; omega⟩, by simp only [gpt]; omega⟩
          obtain ⟨L, hL⟩ : ∃ L, L = rowN h (colN n h (nds n h f) f i) f i j := ⟨_, rfl⟩
          have hLl : L.length ≤ 2000 := by
            have a1 := rowN_len (h := h) (base := colN n h (nds n h f) f i) (f := f) (i := i) (j := j)
            have a2 := colN_len (n := n) (h := h) (base := nds n h f) (f := f) (i := i)
            have a3 := nds_len (n := n) (h := h) (f := f)
            have a4 : i * (n + 1) ≤ 8 * 9 := Nat.mul_le_mul (by omega) (by omega)
            have a5 : f * ((n + 1) * (n + 1)) ≤ 20 * (9 * 9) := Nat.mul_le_mul (by omega) (Nat.mul_le_mul (by omega) (by omega))
            rw [hL]; omega
          have hnx : rowN h (colN n h (nds n h f) f i) f i (j + 1) = nstep L (gpt h f i j) := by rw [hL]; rfl
          rw [← hL] at hrow
          refine Lwp_skip ?_
          try simp -dsimp only [go_sem, ↓reduceIte, hc0, hn0, hq, wq]
          refine hKK15 _ _ ?_
          try clear hKK15 KK15
          refine Lwp_seq fun KK17 hKK17 => ?_
          refine Lwp_block ?_
          refine Lwp_seq fun KK18 hKK18 => ?_
          refine LregionG [none, none, none, none, none, none, none, none, none, none] (by kernel_rfl) (by kernel_rfl) ?_
          simp -dsimp only [go_sem, ↓reduceIte, hc0, hn0, hq, wq, wa, wb]
          have hrow2 := hrow.mono (T' := T ++ [some (4, [plc (gpt h f i j)])]) (Nat.le_refl _) (fun i _ hl => List.getElem?_append_left hl)
          refine hKK18 _ _ ?_
          try clear hKK18 KK18
          refine Lwp_seqJ [0, 4, 5, 6, 7, 8, 9, 53] (fun us S' => us = [V n, V h, u, V f, V ((h * i : Nat) : Int), V ((h * j : Nat) : Int), .ptr (S.length + T.length) 0 0, .bool (keepP (gpt h f i j))] ∧ S' = S ++ (T ++ [some (4, [plc (gpt h f i j)])])) rfl (fun KK19 hKK19 => ?_) ?_
          · skip
            refine LregionG [none, none, none, some (41, true), some (41, true), none, none, some (45, true), some (45, true), some (45, true), none, none, some (50, false), some (50, false), none] (by kernel_rfl) (by kernel_rfl) ?_
            simp -dsimp only [go_sem, ↓reduceIte, hc0, hn0, hq, wq]
            by_cases q1 : (0 : Int) < ((h * i : Nat) : Int)
            rotate_left
            · have hJ : keepP (gpt h f i j) = decide (gpt h f i j = nrm (gpt h f i j)) := by simp only [keepP, gpt, q1, decide_false, Bool.false_and, Bool.false_or]
              simp -dsimp only [go_sem, ↓reduceIte, q1]
              refine (IsNormal_ok (gpt h f i j) hP).k' ?_
              rintro _ rfl
              simp -dsimp only [go_sem, ↓reduceIte]
              refine hKK19 _ _ ⟨by rw [hJ], rfl⟩
            simp -dsimp only [go_sem, ↓reduceIte, q1]
            by_cases q2 : (0 : Int) < ((h * j : Nat) : Int)
            rotate_left
            · have hJ : keepP (gpt h f i j) = decide (gpt h f i j = nrm (gpt h f i j)) := by simp only [keepP, gpt, q2, decide_false, Bool.false_and, Bool.and_false, Bool.false_or]
              simp -dsimp only [go_sem, ↓reduceIte, q2]
              refine (IsNormal_ok (gpt h f i j) hP).k' ?_
              rintro _ rfl
              simp -dsimp only [go_sem, ↓reduceIte]
              refine hKK19 _ _ ⟨by rw [hJ], rfl⟩
            simp -dsimp only [go_sem, ↓reduceIte, q2]
            by_cases q3 : (0 : Int) < 840 - ((h * i : Nat) : Int) - ((h * j : Nat) : Int)
            rotate_left
            · have hJ : keepP (gpt h f i j) = decide (gpt h f i j = nrm (gpt h f i j)) := by simp only [keepP, gpt, q3, decide_false, Bool.and_false, Bool.false_or]
              simp -dsimp only [go_sem, ↓reduceIte, q3]
              refine (IsNormal_ok (gpt h f i j) hP).k' ?_
              rintro _ rfl
              simp -dsimp only [go_sem, ↓reduceIte]
              refine hKK19 _ _ ⟨by rw [hJ], rfl⟩
            simp -dsimp only [go_sem, ↓reduceIte, q3]
            have hJ : keepP (gpt h f i j) = true := by simp only [keepP, gpt, q1, q2, q3, decide_true, Bool.and_self, Bool.true_or]
            refine hKK19 _ _ ⟨by rw [hJ], rfl⟩
          · rintro us SJ ⟨rfl, rfl⟩
            refine Lwp_cond (by simp only [go_sem, ↓reduceIte, hc0, hn0, hq, wq]; rfl) (fun ht => ?_) (fun hf => ?_)
            · skip
              have hon : keepP (gpt h f i j) = true := ht
              refine LregionG [none, none, none, none, none] (by kernel_rfl) (by kernel_rfl) ?_
              simp -dsimp only [go_sem, ↓reduceIte, hc0, hn0, hq, wq, plc_len, plc_take, Nat.le_refl]
              refine append_own (by simp) hrow2 rfl (by simp only [go_sem]; rfl) (by simp only [go_sem]; first | exact ⟨rfl, rfl⟩ | exact ⟨rfl, rfl, rfl⟩ | rfl) (by simp only [go_sem]) (by simp only [go_sem, ↓reduceIte]) (by simp only [go_sem, ↓reduceIte]; rfl) (by simp [plc_len]) (.inr (by simp)) (by simp only [LIM, List.length_cons, List.length_nil]; simp only [List.length_map]; omega) (Nat.zero_le _) fun T' hT' hrow' hpre' => ?_
              clear hrow2
              simp -dsimp only [go_sem, ↓reduceIte, hc0, hn0, hq, wq]
              refine hKK17 _ _ ?_
              try clear hKK17 KK17
              refine LregionG [none, none, none, none] (by kernel_rfl) (by kernel_rfl) ?_
              simp -dsimp only [go_sem, ↓reduceIte, hc0, hn0, hq, wq, wj]
              repeat with_reducible refine And.intro (by first | omega | decide) ?_
              refine hII2 (m2 - 1) _ _ (by omega) ⟨_, _, j + 1, rfl, rfl, ?_, by omega, by omega⟩
              rw [hnx]
              simp only [nstep, hon, cond_true, cond_false, List.map_append, List.map_cons, List.map_nil]
              first | (have hz := hrow'; simp only [List.length_map, List.length_append, List.length_cons, List.length_nil] at hz; exact hz) | exact hrow2
            · skip
              have hon : keepP (gpt h f i j) = false := hf
              refine Lwp_skip ?_
              try simp -dsimp only [go_sem, ↓reduceIte, hc0, hn0, hq, wq]
              refine hKK17 _ _ ?_
              try clear hKK17 KK17
              refine LregionG [none, none, none, none] (by kernel_rfl) (by kernel_rfl) ?_
              simp -dsimp only [go_sem, ↓reduceIte, hc0, hn0, hq, wq, wj]
              repeat with_reducible refine And.intro (by first | omega | decide) ?_
              refine hII2 (m2 - 1) _ _ (by omega) ⟨_, _, j + 1, rfl, rfl, ?_, by omega, by omega⟩
              rw [hnx]
              simp only [nstep, hon, cond_true, cond_false, List.map_append, List.map_cons, List.map_nil]
              first | (have hz := hrow'; simp only [List.length_map, List.length_append, List.length_cons, List.length_nil] at hz; exact hz) | exact hrow2
        · skip
          obtain rfl : j = n + 1 - i := by
            simp only [decide_eq_false_iff_not] at hf
            rcases Nat.lt_or_ge n (i + j) with hl | hl
            · omega
            · have := Nat.mul_le_mul_left h hl
              rw [Nat.mul_add, hh] at this; omega
          refine Lwp_exit ?_
          simp -dsimp only [go_sem, ↓reduceIte, hc0, hn0, hq, wq]
          refine hKK13 _ _ ?_
          try clear hKK13 KK13
          have wi : IntKind.i64.wrap (((h * i : Nat) : Int) + (h : Int)) = ((h * (i + 1) : Nat) : Int) := by
            have := Nat.mul_le_mul_left h hi
            rw [Nat.mul_succ, w64 (by omega) (by omega)]; omega
          refine LregionG [none, none, none, none] (by kernel_rfl) (by kernel_rfl) ?_
          simp -dsimp only [go_sem, ↓reduceIte, hc0, hn0, hq, wq, wi]
          repeat with_reducible refine And.intro (by first | omega | decide) ?_
          exact hII1 (m1 - 1) _ _ (by omega) ⟨_, _, i + 1, rfl, rfl, hrow, by omega, by omega⟩
      · skip
        obtain rfl : i = n + 1 := by
          simp only [decide_eq_false_iff_not] at hf
          rcases Nat.lt_or_ge n i with hl | hl
          · omega
          · have := Nat.mul_le_mul_left h hl
            rw [hh] at this; omega
        refine Lwp_exit ?_
        simp -dsimp only [go_sem, ↓reduceIte, hc0, hn0, hq, wq]
        refine hKK9 _ _ ?_
        try clear hKK9 KK9
        have wf : IntKind.i64.wrap ((f : Int) + 1) = ((f + 1 : Nat) : Int) := w64 (by omega) (by omega)
        refine LregionG [none, none, none] (by kernel_rfl) (by kernel_rfl) ?_
        simp -dsimp only [go_sem, ↓reduceIte, hc0, hn0, hq, wq, wf]
        repeat with_reducible refine And.intro (by first | omega | decide) ?_
        exact hII (m - 1) _ _ (by omega) ⟨_, _, f + 1, rfl, rfl, hrow, by omega, by omega⟩
    · skip
      obtain rfl : f = 20 := by simp at hf; omega
      refine Lwp_exit ?_
      simp -dsimp only [go_sem, ↓reduceIte, hc0, hn0, hq, wq]
      refine hKK5 _ _ ?_
      try clear hKK5 KK5
      refine Lwp_seq fun KK20 hKK20 => ?_
      refine LregionG [none, none, none] (by kernel_rfl) (by kernel_rfl) ?_
      simp -dsimp only [go_sem, ↓reduceIte, hc0, hn0, hq, wq]
      repeat with_reducible refine And.intro (by first | omega | decide) ?_
      refine hKK20 _ _ ?_
      try clear hKK20 KK20
      refine Lwp_ret ?_
      simp only [LThen, LBlock, LPost, Tryz.results84]
      simp -dsimp only [go_sem, ↓reduceIte, hc0, hn0, hq, wq]
      obtain ⟨full, hz⟩ := hrow.frz1 (A := S) rfl
      refine ret_app (by simp only [go_sem, ↓reduceIte, hz, LV.lt, ltL, lt_plc, Bool.and_self]) ?_
      simp only [go_sem, ↓reduceIte, hz]
      exact hRR _ ⟨full, rfl⟩

end Go.Proofs.YtdhngmldmalbbaaGreat
end
section
set_option linter.all false
namespace Go.Proofs.YtdhngmldmalbbaaGreat
open Go.Lift Go.RowKit Go.Store
set_option linter.unusedSimpArgs false
set_option linter.unusedVariables false

theorem Keeps_own {S T S' : LS} {ids : List Nat} (h : Keeps (S ++ T) S' ids) (hi : ∀ i ∈ ids, S.length ≤ i) : ∃ T', S' = S ++ T' ∧ T.length ≤ T'.length ∧ ∀ k, k < T.length → S.length + k ∉ ids → T'[k]? = T[k]? := by
  have h1 := h.1
  rw [List.length_append] at h1
  have hS' : S' = S ++ S'.drop S.length := by
    apply List.ext_getElem?
    intro i
    by_cases hl : i < S.length
    · rw [List.getElem?_append_left hl, h.2 i (by rw [List.length_append]; omega) (fun hm => by have := hi i hm; omega), List.getElem?_append_left hl]
    · rw [List.getElem?_append_right (by omega), List.getElem?_drop]; congr 1; omega
  refine ⟨_, hS', by rw [List.length_drop]; omega, fun k hk hn => ?_⟩
  rw [List.getElem?_drop, h.2 _ (by rw [List.length_append]; omega) hn, List.getElem?_append_right (by omega), Nat.add_sub_cancel_left]

def cellP (a b c : Int) : C3 := (min (min a b) c, a + b + c - min (min a b) c - max (max a b) c, max (max a b) c)
def atP (l : List P4) (h f i j : Nat) : Int := find l (nrm (gpt h f i j))
def cstep (l : List P4) (n h f : Nat) (out : List C3) (i j : Nat) : List C3 :=
  bif decide (i + j + 2 ≤ n) then ins (ins out (cellP (atP l h f (i + 1) j) (atP l h f i (j + 1)) (atP l h f i j))) (cellP (atP l h f i (j + 1)) (atP l h f (i + 1) j) (atP l h f (i + 1) (j + 1)))
  else ins out (cellP (atP l h f (i + 1) j) (atP l h f i (j + 1)) (atP l h f i j))
def rowC (l : List P4) (n h : Nat) (base : List C3) (f i : Nat) : Nat → List C3
  | 0 => base
  | j + 1 => cstep l n h f (rowC l n h base f i j) i j
def colC (l : List P4) (n h : Nat) (base : List C3) (f : Nat) : Nat → List C3
  | 0 => base
  | i + 1 => rowC l n h (colC l n h base f i) f i (n - i)
/-- the cells of a grid. -/
def cls (l : List P4) (n h : Nat) : Nat → List C3
  | 0 => []
  | f + 1 => colC l n h (cls l n h f) f n
theorem cstep_len {l : List P4} {n h f : Nat} {out : List C3} {i j : Nat} : (cstep l n h f out i j).length ≤ out.length + 2 := by
  unfold cstep
  cases decide (i + j + 2 ≤ n)
  · simp only [cond_false, ins_len]; omega
  · simp only [cond_true, ins_len]; omega
theorem rowC_len {l : List P4} {n h : Nat} {base : List C3} {f i : Nat} : ∀ {j : Nat}, (rowC l n h base f i j).length ≤ base.length + 2 * j
  | 0 => Nat.le_refl _
  | j + 1 => by
    have h1 := rowC_len (l := l) (n := n) (h := h) (base := base) (f := f) (i := i) (j := j)
    have h2 := cstep_len (l := l) (n := n) (h := h) (f := f) (out := rowC l n h base f i j) (i := i) (j := j)
    simp only [rowC]; omega
theorem colC_len {l : List P4} {n h : Nat} {base : List C3} {f : Nat} : ∀ {i : Nat}, (colC l n h base f i).length ≤ base.length + i * (2 * n)
  | 0 => by simp [colC]
  | i + 1 => by
    have h1 := colC_len (l := l) (n := n) (h := h) (base := base) (f := f) (i := i)
    have h2 := rowC_len (l := l) (n := n) (h := h) (base := colC l n h base f i) (f := f) (i := i) (j := n - i)
    have h3 : (i + 1) * (2 * n) = i * (2 * n) + 2 * n := Nat.succ_mul _ _
    simp only [colC]; omega
theorem cls_len {l : List P4} {n h : Nat} : ∀ {f : Nat}, (cls l n h f).length ≤ f * (n * (2 * n))
  | 0 => by simp [cls]
  | f + 1 => by
    have h1 := cls_len (l := l) (n := n) (h := h) (f := f)
    have h2 := colC_len (l := l) (n := n) (h := h) (base := cls l n h f) (f := f) (i := n)
    have h3 : (f + 1) * (n * (2 * n)) = f * (n * (2 * n)) + n * (2 * n) := Nat.succ_mul _ _
    simp only [cls]; omega

/-- a row of cells of the call's own. -/
def RowC (n : Nat) (T : LS) (u : LV) (l : List C3) : Prop := ∃ k, u = .ref (n + k) 0 l.length ∧ T[k]? = some (some (3, l.map cl3))
theorem RowC.rowT {n : Nat} {T : LS} {u : LV} {l : List C3} (h : RowC n T u l) : RowT n T 0 u 3 (l.map cl3) := by
  obtain ⟨k, h1, h2⟩ := h
  refine ⟨fun e he => ?_, .inr ⟨k, Nat.zero_le _, by rw [List.length_map]; exact h1, h2⟩⟩
  obtain ⟨c, _, rfl⟩ := List.mem_map.1 he; rfl
theorem lt_cl3 {n : Nat} {l : List C3} : ltLL n (l.map cl3) = true := by
  induction l with
  | nil => rfl
  | cons x l ih => simp only [List.map_cons, ltLL, cl3, ltL, LV.lt, Bool.and_self, Bool.true_and] at ih ⊢; exact ih

theorem Insert_k {S T : LS} {u : LV} {l : List C3} {x : C3} {d : Option Tmp} {K : Env → LS → Prop} {t : Tag K} {env : Env} (hr : RowC S.length T u l) (hl : l.length ≤ 1000000)
    (hk : ∀ u' T', RowC S.length T' u' (ins l x) → T.length ≤ T'.length → K (env.putO d u') (S ++ T')) : LCK Tryz.prog 85 [u, .agg (cl3 x)] (S ++ T) d K t env := by
  obtain ⟨k, rfl, hk2⟩ := hr
  refine (Insert_ok (id := S.length + k) l x (by rw [get_app]; exact hk2) hl).k fun r S' ⟨id', h1, h2, h3, h4⟩ => ?_
  obtain ⟨T', rfl, h5, h6⟩ := Keeps_own h3 (fun i hi => by rw [List.mem_singleton.1 hi]; omega)
  rw [List.length_append] at h4
  refine hk r T' ⟨id' - S.length, by rw [h1, ins_len]; congr 1; omega, ?_⟩ h5
  rw [List.getElem?_append_right (by omega)] at h2
  exact h2
theorem find_rng {l : List P4} (hl : l.length ≤ 2000) {p : P4} : -1 ≤ find l p ∧ find l p < 1000000 := by
  have := find_le (l := l) (p := p)
  omega

set_option maxHeartbeats 400000 in
theorem Cells_ok (n h : Nat) (h1 : 1 ≤ n) (h8 : n ≤ 8) (hh : h * n = 840) : Pc 83 [V n] (fun r => ∃ full, r = .tup [.sl full ((cls (nds n h 20) n h 20).map cl3), V 0]) := by
  refine Pc_intro 2 Tryz.func83 rfl (by kernel_rfl) rfl fun S RR hRR => ?_
  have hh1 : 1 ≤ h := by
    rcases Nat.eq_zero_or_pos h with e | e
    · rw [e, Nat.zero_mul] at hh; omega
    · exact e
  have hh2 : h ≤ 840 := by have := Nat.mul_le_mul_left h h1; omega
  have hq : (840 : Int).tdiv n = h := by
    have : (840 : Int) = (h : Int) * (n : Int) := by rw [← Int.natCast_mul, hh]; rfl
    rw [this]; exact Int.mul_tdiv_cancel _ (by omega)
  have wq : IntKind.i64.wrap (h : Int) = h := w64 (by omega) (by omega)
  have hn0 : (¬ (n : Int) = 0) = True := by simp; omega
  have wr : IntKind.i64.wrap (840 - (h : Int)) = 840 - h := w64 (by omega) (by omega)
  refine Lwp_seq fun KK0 hKK0 => ?_
  refine LregionG [none, none] (by kernel_rfl) (by kernel_rfl) ?_
  simp -dsimp only [go_sem, ↓reduceIte]
  repeat with_reducible refine And.intro (by first | omega | decide) ?_
  refine hKK0 _ _ ?_
  try clear hKK0 KK0
  refine Lwp_seq fun KK1 hKK1 => ?_
  refine LregionG [none, none, none, none, none, none, none] (by kernel_rfl) (by kernel_rfl) ?_
  simp -dsimp only [go_sem, ↓reduceIte]
  refine (Nodes_ok n h h1 h8 hh).k' ?_
  rintro _ ⟨full, rfl⟩
  simp -dsimp only [go_sem, ↓reduceIte]
  refine hKK1 _ _ ?_
  try clear hKK1 KK1
  refine Lwp_seq fun KK2 hKK2 => ?_
  refine Lwp_seq fun KK3 hKK3 => ?_
  refine LregionG [none, none] (by kernel_rfl) (by kernel_rfl) ?_
  simp -dsimp only [go_sem, ↓reduceIte]
  repeat with_reducible refine And.intro (by first | omega | decide) ?_
  refine hKK3 _ _ ?_
  try clear hKK3 KK3
  refine Lwp_cond (by simp only [go_sem, ↓reduceIte]; rfl) (fun ht => ?_) (fun hf => ?_)
  · skip
    cases ht
  · skip
    refine Lwp_skip ?_
    try simp -dsimp only [go_sem, ↓reduceIte]
    refine hKK2 _ _ ?_
    try clear hKK2 KK2
    refine Lwp_seq fun KK4 hKK4 => ?_
    refine LregionG [none, none, none] (by kernel_rfl) (by kernel_rfl) ?_
    simp -dsimp only [go_sem, ↓reduceIte, hn0, hq, wq]
    repeat with_reducible refine And.intro (by first | omega | decide) ?_
    refine hKK4 _ _ ?_
    try clear hKK4 KK4
    refine Lwp_seq fun KK5 hKK5 => ?_
    refine LregionG [none] (by kernel_rfl) (by kernel_rfl) ?_
    simp -dsimp only [go_sem, ↓reduceIte, hn0, hq, wq]
    repeat with_reducible refine And.intro (by first | omega | decide) ?_
    refine hKK5 _ _ ?_
    try clear hKK5 KK5
    refine Lwp_seq fun KK6 hKK6 => ?_
    refine Lwp_seq fun KK7 hKK7 => ?_
    refine LregionG [none] (by kernel_rfl) (by kernel_rfl) ?_
    simp -dsimp only [go_sem, ↓reduceIte, hn0, hq, wq]
    obtain ⟨L, hL⟩ : ∃ L, L = nds n h 20 := ⟨_, rfl⟩
    have hLl : L.length ≤ 1620 := by
      have a3 := nds_len (n := n) (h := h) (f := 20)
      have a5 : 20 * ((n + 1) * (n + 1)) ≤ 20 * (9 * 9) := Nat.mul_le_mul (by omega) (Nat.mul_le_mul (by omega) (by omega))
      rw [hL]; omega
    simp only [← hL]
    simp only [← hL] at hRR
    refine hKK7 _ _ ?_
    try clear hKK7 KK7
    refine Lwp_block ?_
    refine Lwp_virt 7 3 rfl ?_
    refine Lwp_loopK [4, 6, 7, 8] (fun m us S' => ∃ (T : LS) (u : LV) (f : Nat), S' = S ++ T ∧ us = [.sl full (L.map plc), V h, u, V f] ∧ RowC S.length T u (cls L n h f) ∧ f ≤ 20 ∧ m = 20 - f) 20 rfl (⟨[some (3, [])], .ref S.length 0 0, 0, rfl, by simp only [go_sem, ↓reduceIte, Int.natCast_zero], ⟨0, rfl, rfl⟩, by omega, by omega⟩) ?_
    rintro m us S2 ⟨T, u, f, rfl, rfl, hrow, hf20, hm⟩ II hII
    refine Lwp_seq fun KK8 hKK8 => ?_
    refine Lwp_seq fun KK9 hKK9 => ?_
    refine LregionG [none, none] (by kernel_rfl) (by kernel_rfl) ?_
    simp -dsimp only [go_sem, ↓reduceIte, hn0, hq, wq]
    repeat with_reducible refine And.intro (by first | omega | decide) ?_
    refine hKK9 _ _ ?_
    try clear hKK9 KK9
    refine Lwp_cond (by simp only [go_sem, ↓reduceIte, hn0, hq, wq]; rfl) (fun ht => ?_) (fun hf => ?_)
    · skip
      have hf20 : f < 20 := by simp at ht; omega
      refine Lwp_skip ?_
      try simp -dsimp only [go_sem, ↓reduceIte, hn0, hq, wq]
      refine hKK8 _ _ ?_
      try clear hKK8 KK8
      refine Lwp_seq fun KK10 hKK10 => ?_
      refine Lwp_block ?_
      refine Lwp_seq fun KK11 hKK11 => ?_
      refine LregionG [none] (by kernel_rfl) (by kernel_rfl) ?_
      simp -dsimp only [go_sem, ↓reduceIte, hn0, hq, wq]
      repeat with_reducible refine And.intro (by first | omega | decide) ?_
      refine hKK11 _ _ ?_
      try clear hKK11 KK11
      refine Lwp_block ?_
      refine Lwp_loopK [4, 6, 7, 8, 9] (fun m us S' => ∃ (T : LS) (u : LV) (i : Nat), S' = S ++ T ∧ us = [.sl full (L.map plc), V h, u, V f, V ((h * i : Nat) : Int)] ∧ RowC S.length T u (colC L n h (cls L n h f) f i) ∧ i ≤ n ∧ m = n - i) n rfl (⟨T, u, 0, rfl, by simp only [go_sem, ↓reduceIte, Nat.mul_zero, Int.natCast_zero], hrow, by omega, by omega⟩) ?_
      rintro m1 us S2 ⟨T, u, i, rfl, rfl, hrow, hi, hm1⟩ II1 hII1
      refine Lwp_seq fun KK12 hKK12 => ?_
      refine Lwp_seq fun KK13 hKK13 => ?_
      refine LregionG [none, none, none, none] (by kernel_rfl) (by kernel_rfl) ?_
      simp -dsimp only [go_sem, ↓reduceIte, hn0, hq, wq, wr]
      repeat with_reducible refine And.intro (by first | omega | decide) ?_
      refine hKK13 _ _ ?_
      try clear hKK13 KK13
      refine Lwp_cond (by simp only [go_sem, ↓reduceIte, hn0, hq, wq, wr]; rfl) (fun ht => ?_) (fun hf => ?_)
      · skip
        have hi : i < n := by
          simp only [decide_eq_true_eq] at ht
          rcases Nat.lt_or_ge i n with hl | hl
          · exact hl
          · have := Nat.mul_le_mul_left h hl
            rw [hh] at this; omega
        refine Lwp_skip ?_
        try simp -dsimp only [go_sem, ↓reduceIte, hn0, hq, wq]
        refine hKK12 _ _ ?_
        try clear hKK12 KK12
        refine Lwp_seq fun KK14 hKK14 => ?_
        refine Lwp_block ?_
        refine Lwp_seq fun KK15 hKK15 => ?_
        refine LregionG [none] (by kernel_rfl) (by kernel_rfl) ?_
        simp -dsimp only [go_sem, ↓reduceIte, hn0, hq, wq]
        repeat with_reducible refine And.intro (by first | omega | decide) ?_
        refine hKK15 _ _ ?_
        try clear hKK15 KK15
        refine Lwp_block ?_
        refine Lwp_loopK [4, 6, 7, 8, 9, 10] (fun m us S' => ∃ (T : LS) (u : LV) (j : Nat), S' = S ++ T ∧ us = [.sl full (L.map plc), V h, u, V f, V ((h * i : Nat) : Int), V ((h * j : Nat) : Int)] ∧ RowC S.length T u (rowC L n h (colC L n h (cls L n h f) f i) f i j) ∧ j ≤ n - i ∧ m = n - i - j) (n - i) rfl (⟨T, u, 0, rfl, by simp only [go_sem, ↓reduceIte, Nat.mul_zero, Int.natCast_zero], hrow, by omega, by omega⟩) ?_
        rintro m2 us S2 ⟨T, u, j, rfl, rfl, hrow, hj, hm2⟩ II2 hII2
        refine Lwp_seq fun KK16 hKK16 => ?_
        refine Lwp_seq fun KK17 hKK17 => ?_
        have hij : h * i + h * j ≤ 840 := by
          have a1 := Nat.mul_le_mul_left h (show i + j ≤ n by omega)
          rw [Nat.mul_add, hh] at a1; omega
        have wij : IntKind.i64.wrap (((h * i : Nat) : Int) + ((h * j : Nat) : Int)) = ((h * i : Nat) : Int) + ((h * j : Nat) : Int) := w64 (by omega) (by omega)
        have wi1 : IntKind.i64.wrap (((h * i : Nat) : Int) + (h : Int)) = ((h * (i + 1) : Nat) : Int) := by rw [Nat.mul_succ, w64 (by omega) (by omega)]; omega
        have wj1 : IntKind.i64.wrap (((h * j : Nat) : Int) + (h : Int)) = ((h * (j + 1) : Nat) : Int) := by rw [Nat.mul_succ, w64 (by omega) (by omega)]; omega
        have w2h : IntKind.i64.wrap (2 * (h : Int)) = 2 * h := w64 (by omega) (by omega)
        have w2r : IntKind.i64.wrap (840 - 2 * (h : Int)) = 840 - 2 * h := w64 (by omega) (by omega)
        refine LregionG [none, none, none, none, none, none] (by kernel_rfl) (by kernel_rfl) ?_
        simp -dsimp only [go_sem, ↓reduceIte, hn0, hq, wq, wr, wij]
        repeat with_reducible refine And.intro (by first | omega | decide) ?_
        refine hKK17 _ _ ?_
        try clear hKK17 KK17
        refine Lwp_cond (by simp only [go_sem, ↓reduceIte, hn0, hq, wq, wr, wij]; rfl) (fun ht => ?_) (fun hf => ?_)
        · skip
          have hj : i + j < n := by
            simp only [decide_eq_true_eq] at ht
            rcases Nat.lt_or_ge (i + j) n with hl | hl
            · exact hl
            · have := Nat.mul_le_mul_left h hl
              rw [Nat.mul_add, hh] at this; omega
          have hgp : ∀ a b : Nat, a + b ≤ n → isP ((f : Int), ((h * a : Nat) : Int), ((h * b : Nat) : Int), 840 - ((h * a : Nat) : Int) - ((h * b : Nat) : Int)) := fun a b hab => by
            have := Nat.mul_le_mul_left h hab
            rw [Nat.mul_add, hh] at this
            refine ⟨?_, ?_, ?_, ?_, ?_⟩ <;> (dsimp only; omega)
          have hfr := fun p => find_rng (l := L) (by omega) (p := p)
          obtain ⟨O, hO⟩ : ∃ O, O = rowC L n h (colC L n h (cls L n h f) f i) f i j := ⟨_, rfl⟩
          have hOl : O.length ≤ 4000 := by
            have a1 := rowC_len (l := L) (n := n) (h := h) (base := colC L n h (cls L n h f) f i) (f := f) (i := i) (j := j)
            have a2 := colC_len (l := L) (n := n) (h := h) (base := cls L n h f) (f := f) (i := i)
            have a3 := cls_len (l := L) (n := n) (h := h) (f := f)
            have a4 : i * (2 * n) ≤ 8 * (2 * 8) := Nat.mul_le_mul (by omega) (by omega)
            have a5 : f * (n * (2 * n)) ≤ 20 * (8 * (2 * 8)) := Nat.mul_le_mul (by omega) (Nat.mul_le_mul (by omega) (by omega))
            rw [hO]; omega
          have hnx : rowC L n h (colC L n h (cls L n h f) f i) f i (j + 1) = cstep L n h f O i j := by rw [hO]; rfl
          rw [← hO] at hrow
          refine Lwp_skip ?_
          try simp -dsimp only [go_sem, ↓reduceIte, hn0, hq, wq]
          refine hKK16 _ _ ?_
          try clear hKK16 KK16
          refine Lwp_seq fun KK18 hKK18 => ?_
          refine Lwp_block ?_
          refine Lwp_seq fun KK19 hKK19 => ?_
          refine LregionG [none, none, none, none, none, none, none, none, none, none, none, none, none, none, none, none, none, none, none, none, none, none, none] (by kernel_rfl) (by kernel_rfl) ?_
          simp -dsimp only [go_sem, ↓reduceIte, hn0, hq, wq, wi1]
          refine (At_ok full L (by omega) f ((h * (i + 1) : Nat) : Int) ((h * (j) : Nat) : Int) (hgp (i + 1) (j) (by omega))).k' ?_
          rintro _ rfl
          simp -dsimp only [go_sem, ↓reduceIte, hn0, hq, wq, wj1]
          refine (At_ok full L (by omega) f ((h * (i) : Nat) : Int) ((h * (j + 1) : Nat) : Int) (hgp (i) (j + 1) (by omega))).k' ?_
          rintro _ rfl
          simp -dsimp only [go_sem, ↓reduceIte, hn0, hq, wq]
          refine (At_ok full L (by omega) f ((h * (i) : Nat) : Int) ((h * (j) : Nat) : Int) (hgp (i) (j) (by omega))).k' ?_
          rintro _ rfl
          simp -dsimp only [go_sem, ↓reduceIte, hn0, hq, wq]
          refine (Cell_ok _ _ _ (hfr _) (hfr _) (hfr _)).k' ?_
          rintro _ rfl
          simp -dsimp only [go_sem, ↓reduceIte, hn0, hq, wq]
          refine Insert_k (x := cellP (atP L h f (i + 1) j) (atP L h f i (j + 1)) (atP L h f i j)) hrow (by omega) ?_
          rintro u T1 hrow1 hT1
          simp -dsimp only [go_sem, ↓reduceIte, hn0, hq, wq]
          refine hKK19 _ _ ?_
          try clear hKK19 KK19
          refine Lwp_seq fun KK20 hKK20 => ?_
          refine LregionG [none, none, none, none, none, none, none] (by kernel_rfl) (by kernel_rfl) ?_
          simp -dsimp only [go_sem, ↓reduceIte, hn0, hq, wq, wij, w2h, w2r]
          repeat with_reducible refine And.intro (by first | omega | decide) ?_
          refine hKK20 _ _ ?_
          try clear hKK20 KK20
          refine Lwp_cond (by simp only [go_sem, ↓reduceIte, hn0, hq, wq, wij, w2h, w2r]; rfl) (fun ht => ?_) (fun hf => ?_)
          · skip
            have hij2 : i + j + 2 ≤ n := by
              simp only [decide_eq_true_eq] at ht
              rcases Nat.lt_or_ge (i + j + 1) n with hl | hl
              · omega
              · have := Nat.mul_le_mul_left h hl
                rw [Nat.mul_succ, Nat.mul_add, hh] at this; omega
            have hon := decide_eq_true hij2
            refine LregionG [none, none, none, none, none, none, none, none, none, none, none, none, none, none, none, none, none, none, none, none, none, none, none, none, none, none, none] (by kernel_rfl) (by kernel_rfl) ?_
            simp -dsimp only [go_sem, ↓reduceIte, hn0, hq, wq, wj1]
            refine (At_ok full L (by omega) f ((h * (i) : Nat) : Int) ((h * (j + 1) : Nat) : Int) (hgp (i) (j + 1) (by omega))).k' ?_
            rintro _ rfl
            simp -dsimp only [go_sem, ↓reduceIte, hn0, hq, wq, wi1]
            refine (At_ok full L (by omega) f ((h * (i + 1) : Nat) : Int) ((h * (j) : Nat) : Int) (hgp (i + 1) (j) (by omega))).k' ?_
            rintro _ rfl
            simp -dsimp only [go_sem, ↓reduceIte, hn0, hq, wq, wi1, wj1]
            refine (At_ok full L (by omega) f ((h * (i + 1) : Nat) : Int) ((h * (j + 1) : Nat) : Int) (hgp (i + 1) (j + 1) (by omega))).k' ?_
            rintro _ rfl
            simp -dsimp only [go_sem, ↓reduceIte, hn0, hq, wq]
            refine (Cell_ok _ _ _ (hfr _) (hfr _) (hfr _)).k' ?_
            rintro _ rfl
            simp -dsimp only [go_sem, ↓reduceIte, hn0, hq, wq]
            refine Insert_k (x := cellP (atP L h f i (j + 1)) (atP L h f (i + 1) j) (atP L h f (i + 1) (j + 1))) hrow1 (by rw [ins_len]; omega) ?_
            rintro u T2 hrow2 hT2
            simp -dsimp only [go_sem, ↓reduceIte, hn0, hq, wq]
            refine hKK18 _ _ ?_
            try clear hKK18 KK18
            refine LregionG [none, none, none, none] (by kernel_rfl) (by kernel_rfl) ?_
            simp -dsimp only [go_sem, ↓reduceIte, hn0, hq, wq, wj1]
            repeat with_reducible refine And.intro (by first | omega | decide) ?_
            refine hII2 (m2 - 1) _ _ (by omega) ⟨_, _, j + 1, rfl, rfl, ?_, by omega, by omega⟩
            rw [hnx]
            simp only [cstep, hon, cond_true, cond_false]
            first | exact hrow2 | exact hrow1
          · skip
            have hij2 : ¬ i + j + 2 ≤ n := fun hl => by
              simp only [decide_eq_false_iff_not] at hf
              have := Nat.mul_le_mul_left h hl
              rw [Nat.mul_succ, Nat.mul_succ, Nat.mul_add, hh] at this; omega
            have hon := decide_eq_false hij2
            refine Lwp_skip ?_
            try simp -dsimp only [go_sem, ↓reduceIte, hn0, hq, wq]
            refine hKK18 _ _ ?_
            try clear hKK18 KK18
            refine LregionG [none, none, none, none] (by kernel_rfl) (by kernel_rfl) ?_
            simp -dsimp only [go_sem, ↓reduceIte, hn0, hq, wq, wj1]
            repeat with_reducible refine And.intro (by first | omega | decide) ?_
            refine hII2 (m2 - 1) _ _ (by omega) ⟨_, _, j + 1, rfl, rfl, ?_, by omega, by omega⟩
            rw [hnx]
            simp only [cstep, hon, cond_true, cond_false]
            first | exact hrow2 | exact hrow1
        · skip
          obtain rfl : j = n - i := by
            simp only [decide_eq_false_iff_not] at hf
            rcases Nat.lt_or_ge (i + j) n with hl | hl
            · have := Nat.mul_le_mul_left h hl
              rw [Nat.mul_succ, Nat.mul_add, hh] at this; omega
            · omega
          refine Lwp_exit ?_
          simp -dsimp only [go_sem, ↓reduceIte, hn0, hq, wq]
          refine hKK14 _ _ ?_
          try clear hKK14 KK14
          have wi : IntKind.i64.wrap (((h * i : Nat) : Int) + (h : Int)) = ((h * (i + 1) : Nat) : Int) := by
            have := Nat.mul_le_mul_left h hi
            rw [Nat.mul_succ, hh] at this
            rw [Nat.mul_succ, w64 (by omega) (by omega)]; omega
          refine LregionG [none, none, none, none] (by kernel_rfl) (by kernel_rfl) ?_
          simp -dsimp only [go_sem, ↓reduceIte, hn0, hq, wq, wi]
          repeat with_reducible refine And.intro (by first | omega | decide) ?_
          exact hII1 (m1 - 1) _ _ (by omega) ⟨_, _, i + 1, rfl, rfl, hrow, by omega, by omega⟩
      · skip
        obtain rfl : i = n := by
          simp only [decide_eq_false_iff_not] at hf
          rcases Nat.lt_or_ge i n with hl | hl
          · have := Nat.mul_le_mul_left h hl
            rw [Nat.mul_succ, hh] at this; omega
          · omega
        refine Lwp_exit ?_
        simp -dsimp only [go_sem, ↓reduceIte, hn0, hq, wq]
        refine hKK10 _ _ ?_
        try clear hKK10 KK10
        have wf : IntKind.i64.wrap ((f : Int) + 1) = ((f + 1 : Nat) : Int) := w64 (by omega) (by omega)
        refine LregionG [none, none, none] (by kernel_rfl) (by kernel_rfl) ?_
        simp -dsimp only [go_sem, ↓reduceIte, hn0, hq, wq, wf]
        repeat with_reducible refine And.intro (by first | omega | decide) ?_
        exact hII (m - 1) _ _ (by omega) ⟨_, _, f + 1, rfl, rfl, hrow, by omega, by omega⟩
    · skip
      obtain rfl : f = 20 := by simp at hf; omega
      refine Lwp_exit ?_
      simp -dsimp only [go_sem, ↓reduceIte, hn0, hq, wq]
      refine hKK6 _ _ ?_
      try clear hKK6 KK6
      refine Lwp_seq fun KK21 hKK21 => ?_
      refine LregionG [none, none, none] (by kernel_rfl) (by kernel_rfl) ?_
      simp -dsimp only [go_sem, ↓reduceIte, hn0, hq, wq]
      repeat with_reducible refine And.intro (by first | omega | decide) ?_
      refine hKK21 _ _ ?_
      try clear hKK21 KK21
      refine Lwp_ret ?_
      simp only [LThen, LBlock, LPost, Tryz.results83]
      simp -dsimp only [go_sem, ↓reduceIte, hn0, hq, wq]
      obtain ⟨full, hz⟩ := hrow.rowT.frz1 (A := S) rfl
      refine ret_app (by simp only [go_sem, ↓reduceIte, hz, LV.lt, ltL, lt_cl3, Bool.and_self]) ?_
      simp only [go_sem, ↓reduceIte, hz]
      exact hRR _ ⟨full, rfl⟩

end Go.Proofs.YtdhngmldmalbbaaGreat
end
