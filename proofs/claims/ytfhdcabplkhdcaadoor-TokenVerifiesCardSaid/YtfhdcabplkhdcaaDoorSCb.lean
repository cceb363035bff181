/- Each Go function comes to what its plain function says. PRINTED by a program of this session (ty.py). -/
import Derived.Test.YtfhdcabplkhdcaaDoorSCa
set_option linter.unusedVariables false
set_option linter.unusedSimpArgs false
set_option maxHeartbeats 4000000
set_option maxRecDepth 10000
namespace Go.Proofs.Ty
open Go Go.RW Go.Proofs
open Go.RW renaming thenK → n0, blockK → n1, keepE → n2, updM → n3, envE → n4
open Go.RW.Mem renaming get → n5
open List renaming filter_cons → n6, filter_nil → n7, nil_append → n8, cons_append → n9, map_cons → n10, map_nil → n11, length_cons → n12, length_nil → n13
open Option renaming isNone_none → n14, isNone_some → n15
open Bool renaming false_eq_true → n16
open Nat renaming reduceEqDiff → n17, reduceAdd → n18, reduceMul → n19
/-- passkey/passkeylaw12.TokenVerifies -/
def passkeylaw12TokenVerifiesH : Hints := ⟨[(0, [1, 2, 3, 4, 5, 6, 7]), (1, [1, 2, 3, 4, 5, 6, 7, 28]), (2, [14]), (3, [1, 2, 3, 4, 5, 6, 7, 15]), (4, [1, 2, 3, 4, 5, 6, 7, 15, 16]), (5, [1, 2, 3, 4, 5, 6, 7, 15, 16, 17]), (6, [2, 3, 4, 5, 6, 7, 15, 16, 17, 18]), (7, [2, 3, 4, 5, 6, 7, 15, 16, 17, 18, 19]), (8, [14])], []⟩
def passkeylaw12TokenVerifiesRc : RCode :=
  .seq (.region false [⟨some 7, .box, [.t 0], none, []⟩, ⟨some 14, .mv, [.k (.d (.bool false))], none, []⟩] [1, 2, 3, 4, 5, 6, 7]) (.seq (.seq (.region false [⟨some 20, .mv, [.t 4],
  none, []⟩, ⟨some 21, .lens, [.t 20], none, []⟩, ⟨some 22, .bin .gtr, [.t 21, .k (.d (.int .i64 100))], none, []⟩, ⟨some 23, .mv, [.t 22], none, []⟩, ⟨some 24, .fa 4, [.t 7], some
  (23, false), []⟩, ⟨some 25, .load 1 false, [.t 24], some (23, false), []⟩, ⟨some 26, .lens, [.t 25], some (23, false), []⟩, ⟨some 27, .bin .gtr, [.t 26, .k (.d (.int .i64 100))],
  some (23, false), []⟩, ⟨some 28, .pick, [.t 23, .k (.d (.bool true)), .t 27], none, []⟩] [1, 2, 3, 4, 5, 6, 7, 28]) (.cond (.t 28) (.seq (.region false [⟨some 29, .call 9 false,
  [], none, []⟩, ⟨some 14, .mv, [.t 29], none, []⟩] [14]) .ret) .skip)) (.seq (.region false [⟨some 30, .mv, [.t 1], none, []⟩, ⟨some 31, .call 14 false, [.t 30], none, []⟩, ⟨some
  15, .alloc [.d (.int .u64 0), .d (.bool false), .d (.int .u64 0), .d (.int .i64 0), .d (.str ⟨#[]⟩), .d (.int .i64 0)], [], none, []⟩, ⟨none, .store 6, [.t 15, .t 31], none, []⟩]
  [1, 2, 3, 4, 5, 6, 7, 15]) (.seq (.region false [⟨some 32, .fa 5, [.t 15], none, []⟩, ⟨some 33, .load 1 false, [.t 32], none, []⟩, ⟨some 34, .mv, [.t 2], none, []⟩, ⟨some 35,
  .bin .and, [.t 34, .k (.d (.int .i64 255))], none, []⟩, ⟨some 36, .bin .add, [.t 33, .t 35], none, []⟩, ⟨some 37, .bin .sub, [.t 36, .k (.d (.int .i64 20))], none, []⟩, ⟨some 16,
  .mv, [.t 37], none, []⟩] [1, 2, 3, 4, 5, 6, 7, 15, 16]) (.seq (.region false [⟨some 38, .fa 2, [.t 15], none, []⟩, ⟨some 39, .load 1 false, [.t 38], none, []⟩, ⟨some 40, .mv, [.t
  5], none, []⟩, ⟨some 41, .call 19 false, [.t 39, .t 40], none, []⟩, ⟨some 17, .mv, [.t 41], none, []⟩] [1, 2, 3, 4, 5, 6, 7, 15, 16, 17]) (.seq (.region false [⟨some 42, .bslice
  1 false 3 [.d (.str ⟨#[]⟩)] [0, 1, 2], [.k (.d (.str ⟨#[]⟩)), .k (.d (.str ⟨#[97, 46, 101, 120, 97, 109, 112, 108, 101]⟩)), .k (.d (.str ⟨#[98, 46, 101, 120, 97, 109, 112, 108,
  101]⟩))], none, []⟩, ⟨some 43, .mv, [.t 1], none, []⟩, ⟨some 44, .bin .shr, [.t 43, .k (.d (.int .u64 22))], none, []⟩, ⟨some 45, .bin .and, [.t 44, .k (.d (.int .i64 3))], none,
  []⟩, ⟨some 46, .bin .rem, [.t 45, .k (.d (.int .i64 3))], none, []⟩, ⟨some 47, .ia 1, [.t 42, .t 46], none, []⟩, ⟨some 48, .load 1 false, [.t 47], none, []⟩, ⟨some 18, .mv, [.t
  48], none, []⟩] [2, 3, 4, 5, 6, 7, 15, 16, 17, 18]) (.seq (.region false [⟨some 49, .mv, [.t 3], none, []⟩, ⟨some 50, .bin .and, [.t 49, .k (.d (.int .i64 7))], none, []⟩, ⟨some
  19, .mv, [.t 50], none, []⟩] [2, 3, 4, 5, 6, 7, 15, 16, 17, 18, 19]) (.seq (.region true [⟨some 51, .load 6 true, [.t 7], none, []⟩, ⟨some 52, .mv, [.t 2], none, []⟩, ⟨some 53,
  .mv, [.t 3], none, []⟩, ⟨some 54, .mv, [.t 4], none, []⟩, ⟨some 55, .mv, [.t 5], none, []⟩, ⟨some 56, .mv, [.t 6], none, []⟩, ⟨some 57, .call 20 false, [.t 51, .t 52, .t 53, .t
  54, .t 55, .t 56], none, [0, 1, 2, 3, 4, 5]⟩, ⟨some 58, .load 6 true, [.t 7], none, []⟩, ⟨some 59, .mv, [.t 2], none, []⟩, ⟨some 60, .mv, [.t 3], none, []⟩, ⟨some 61, .mv, [.t
  4], none, []⟩, ⟨some 62, .mv, [.t 5], none, []⟩, ⟨some 63, .mv, [.t 6], none, []⟩, ⟨some 64, .call 21 false, [.t 58, .t 59, .t 60, .t 61, .t 62, .t 63], none, [0, 1, 2, 3, 4, 5,
  6, 7, 8, 9, 10, 11, 12]⟩, ⟨some 65, .bin .eql, [.t 57, .t 64], none, [0, 1, 2, 3, 4, 5, 6, 7, 8, 9, 10, 11, 12, 13]⟩, ⟨some 66, .mv, [.t 65], none, [0, 1, 2, 3, 4, 5, 6, 7, 8, 9,
  10, 11, 12, 13, 14]⟩, ⟨some 67, .load 6 true, [.t 7], some (66, true), [0, 1, 2, 3, 4, 5, 6, 7, 8, 9, 10, 11, 12, 13, 14, 15]⟩, ⟨some 68, .mv, [.t 2], some (66, true), [0, 1, 2,
  3, 4, 5, 6, 7, 8, 9, 10, 11, 12, 13, 14, 15]⟩, ⟨some 69, .mv, [.t 3], some (66, true), [0, 1, 2, 3, 4, 5, 6, 7, 8, 9, 10, 11, 12, 13, 14, 15]⟩, ⟨some 70, .fa 4, [.t 7], some (66,
  true), [0, 1, 2, 3, 4, 5, 6, 7, 8, 9, 10, 11, 12, 13, 14, 15]⟩, ⟨some 71, .load 1 false, [.t 70], some (66, true), [0, 1, 2, 3, 4, 5, 6, 7, 8, 9, 10, 11, 12, 13, 14, 15, 19]⟩,
  ⟨some 72, .mv, [.t 5], some (66, true), [0, 1, 2, 3, 4, 5, 6, 7, 8, 9, 10, 11, 12, 13, 14, 15]⟩, ⟨some 73, .fa 2, [.t 7], some (66, true), [0, 1, 2, 3, 4, 5, 6, 7, 8, 9, 10, 11,
  12, 13, 14, 15]⟩, ⟨some 74, .load 1 false, [.t 73], some (66, true), [0, 1, 2, 3, 4, 5, 6, 7, 8, 9, 10, 11, 12, 13, 14, 15, 22]⟩, ⟨some 75, .mv, [.t 5], some (66, true), [0, 1,
  2, 3, 4, 5, 6, 7, 8, 9, 10, 11, 12, 13, 14, 15]⟩, ⟨some 76, .call 22 false, [.t 74, .t 75], some (66, true), [0, 1, 2, 3, 4, 5, 6, 7, 8, 9, 10, 11, 12, 13, 14, 15, 22, 23, 24]⟩,
  ⟨some 77, .call 20 false, [.t 67, .t 68, .t 69, .t 71, .t 72, .t 76], some (66, true), [0, 1, 2, 3, 4, 5, 6, 7, 8, 9, 10, 11, 12, 13, 14, 15, 16, 17, 18, 19, 20, 21, 22, 23, 24,
  25]⟩, ⟨some 78, .load 6 true, [.t 7], some (66, true), [0, 1, 2, 3, 4, 5, 6, 7, 8, 9, 10, 11, 12, 13, 14, 15]⟩, ⟨some 79, .mv, [.t 2], some (66, true), [0, 1, 2, 3, 4, 5, 6, 7,
  8, 9, 10, 11, 12, 13, 14, 15]⟩, ⟨some 80, .mv, [.t 3], some (66, true), [0, 1, 2, 3, 4, 5, 6, 7, 8, 9, 10, 11, 12, 13, 14, 15]⟩, ⟨some 81, .fa 4, [.t 7], some (66, true), [0, 1,
  2, 3, 4, 5, 6, 7, 8, 9, 10, 11, 12, 13, 14, 15]⟩, ⟨some 82, .load 1 false, [.t 81], some (66, true), [0, 1, 2, 3, 4, 5, 6, 7, 8, 9, 10, 11, 12, 13, 14, 15, 30]⟩, ⟨some 83, .mv,
  [.t 5], some (66, true), [0, 1, 2, 3, 4, 5, 6, 7, 8, 9, 10, 11, 12, 13, 14, 15]⟩, ⟨some 84, .fa 2, [.t 7], some (66, true), [0, 1, 2, 3, 4, 5, 6, 7, 8, 9, 10, 11, 12, 13, 14,
  15]⟩, ⟨some 85, .load 1 false, [.t 84], some (66, true), [0, 1, 2, 3, 4, 5, 6, 7, 8, 9, 10, 11, 12, 13, 14, 15, 33]⟩, ⟨some 86, .mv, [.t 5], some (66, true), [0, 1, 2, 3, 4, 5,
  6, 7, 8, 9, 10, 11, 12, 13, 14, 15]⟩, ⟨some 87, .call 19 false, [.t 85, .t 86], some (66, true), [0, 1, 2, 3, 4, 5, 6, 7, 8, 9, 10, 11, 12, 13, 14, 15, 16, 17, 18, 19, 20, 21,
  22, 23, 24, 25, 26, 33, 34, 35]⟩, ⟨some 88, .call 21 false, [.t 78, .t 79, .t 80, .t 82, .t 83, .t 87], some (66, true), [0, 1, 2, 3, 4, 5, 6, 7, 8, 9, 10, 11, 12, 13, 14, 15,
  16, 17, 18, 19, 20, 21, 22, 23, 24, 25, 26, 27, 28, 29, 30, 31, 32, 33, 34, 35, 36]⟩, ⟨some 89, .bin .eql, [.t 77, .t 88], some (66, true), [0, 1, 2, 3, 4, 5, 6, 7, 8, 9, 10, 11,
  12, 13, 14, 15, 16, 17, 18, 19, 20, 21, 22, 23, 24, 25, 26, 27, 28, 29, 30, 31, 32, 33, 34, 35, 36, 37]⟩, ⟨some 90, .pick, [.t 66, .t 89, .k (.d (.bool false))], none, [0, 1, 2,
  3, 4, 5, 6, 7, 8, 9, 10, 11, 12, 13, 14, 15, 16, 17, 18, 19, 20, 21, 22, 23, 24, 25, 26, 27, 28, 29, 30, 31, 32, 33, 34, 35, 36, 37, 38]⟩, ⟨some 91, .mv, [.t 90], none, [0, 1, 2,
  3, 4, 5, 6, 7, 8, 9, 10, 11, 12, 13, 14, 15, 16, 17, 18, 19, 20, 21, 22, 23, 24, 25, 26, 27, 28, 29, 30, 31, 32, 33, 34, 35, 36, 37, 38, 39]⟩, ⟨some 92, .load 6 true, [.t 15],
  some (91, true), [0, 1, 2, 3, 4, 5, 6, 7, 8, 9, 10, 11, 12, 13, 14, 15, 16, 17, 18, 19, 20, 21, 22, 23, 24, 25, 26, 27, 28, 29, 30, 31, 32, 33, 34, 35, 36, 37, 38, 39, 40]⟩,
  ⟨some 93, .mv, [.t 16], some (91, true), [0, 1, 2, 3, 4, 5, 6, 7, 8, 9, 10, 11, 12, 13, 14, 15, 16, 17, 18, 19, 20, 21, 22, 23, 24, 25, 26, 27, 28, 29, 30, 31, 32, 33, 34, 35,
  36, 37, 38, 39, 40]⟩, ⟨some 94, .mv, [.t 19], some (91, true), [0, 1, 2, 3, 4, 5, 6, 7, 8, 9, 10, 11, 12, 13, 14, 15, 16, 17, 18, 19, 20, 21, 22, 23, 24, 25, 26, 27, 28, 29, 30,
  31, 32, 33, 34, 35, 36, 37, 38, 39, 40]⟩, ⟨some 95, .mv, [.t 18], some (91, true), [0, 1, 2, 3, 4, 5, 6, 7, 8, 9, 10, 11, 12, 13, 14, 15, 16, 17, 18, 19, 20, 21, 22, 23, 24, 25,
  26, 27, 28, 29, 30, 31, 32, 33, 34, 35, 36, 37, 38, 39, 40]⟩, ⟨some 96, .mv, [.t 5], some (91, true), [0, 1, 2, 3, 4, 5, 6, 7, 8, 9, 10, 11, 12, 13, 14, 15, 16, 17, 18, 19, 20,
  21, 22, 23, 24, 25, 26, 27, 28, 29, 30, 31, 32, 33, 34, 35, 36, 37, 38, 39, 40]⟩, ⟨some 97, .mv, [.t 17], some (91, true), [0, 1, 2, 3, 4, 5, 6, 7, 8, 9, 10, 11, 12, 13, 14, 15,
  16, 17, 18, 19, 20, 21, 22, 23, 24, 25, 26, 27, 28, 29, 30, 31, 32, 33, 34, 35, 36, 37, 38, 39, 40]⟩, ⟨some 98, .call 20 false, [.t 92, .t 93, .t 94, .t 95, .t 96, .t 97], some
  (91, true), [0, 1, 2, 3, 4, 5, 6, 7, 8, 9, 10, 11, 12, 13, 14, 15, 16, 17, 18, 19, 20, 21, 22, 23, 24, 25, 26, 27, 28, 29, 30, 31, 32, 33, 34, 35, 36, 37, 38, 39, 40, 41, 42, 43,
  44, 45, 46]⟩, ⟨some 99, .load 6 true, [.t 15], some (91, true), [0, 1, 2, 3, 4, 5, 6, 7, 8, 9, 10, 11, 12, 13, 14, 15, 16, 17, 18, 19, 20, 21, 22, 23, 24, 25, 26, 27, 28, 29, 30,
  31, 32, 33, 34, 35, 36, 37, 38, 39, 40]⟩, ⟨some 100, .mv, [.t 16], some (91, true), [0, 1, 2, 3, 4, 5, 6, 7, 8, 9, 10, 11, 12, 13, 14, 15, 16, 17, 18, 19, 20, 21, 22, 23, 24, 25,
  26, 27, 28, 29, 30, 31, 32, 33, 34, 35, 36, 37, 38, 39, 40]⟩, ⟨some 101, .mv, [.t 19], some (91, true), [0, 1, 2, 3, 4, 5, 6, 7, 8, 9, 10, 11, 12, 13, 14, 15, 16, 17, 18, 19, 20,
  21, 22, 23, 24, 25, 26, 27, 28, 29, 30, 31, 32, 33, 34, 35, 36, 37, 38, 39, 40]⟩, ⟨some 102, .mv, [.t 18], some (91, true), [0, 1, 2, 3, 4, 5, 6, 7, 8, 9, 10, 11, 12, 13, 14, 15,
  16, 17, 18, 19, 20, 21, 22, 23, 24, 25, 26, 27, 28, 29, 30, 31, 32, 33, 34, 35, 36, 37, 38, 39, 40]⟩, ⟨some 103, .mv, [.t 5], some (91, true), [0, 1, 2, 3, 4, 5, 6, 7, 8, 9, 10,
  11, 12, 13, 14, 15, 16, 17, 18, 19, 20, 21, 22, 23, 24, 25, 26, 27, 28, 29, 30, 31, 32, 33, 34, 35, 36, 37, 38, 39, 40]⟩, ⟨some 104, .mv, [.t 17], some (91, true), [0, 1, 2, 3,
  4, 5, 6, 7, 8, 9, 10, 11, 12, 13, 14, 15, 16, 17, 18, 19, 20, 21, 22, 23, 24, 25, 26, 27, 28, 29, 30, 31, 32, 33, 34, 35, 36, 37, 38, 39, 40]⟩, ⟨some 105, .call 21 false, [.t 99,
  .t 100, .t 101, .t 102, .t 103, .t 104], some (91, true), [0, 1, 2, 3, 4, 5, 6, 7, 8, 9, 10, 11, 12, 13, 14, 15, 16, 17, 18, 19, 20, 21, 22, 23, 24, 25, 26, 27, 28, 29, 30, 31,
  32, 33, 34, 35, 36, 37, 38, 39, 40, 41, 42, 43, 44, 45, 46, 47, 48, 49, 50, 51, 52, 53]⟩, ⟨some 106, .bin .eql, [.t 98, .t 105], some (91, true), [0, 1, 2, 3, 4, 5, 6, 7, 8, 9,
  10, 11, 12, 13, 14, 15, 16, 17, 18, 19, 20, 21, 22, 23, 24, 25, 26, 27, 28, 29, 30, 31, 32, 33, 34, 35, 36, 37, 38, 39, 40, 41, 42, 43, 44, 45, 46, 47, 48, 49, 50, 51, 52, 53,
  54]⟩, ⟨some 107, .pick, [.t 91, .t 106, .k (.d (.bool false))], none, [0, 1, 2, 3, 4, 5, 6, 7, 8, 9, 10, 11, 12, 13, 14, 15, 16, 17, 18, 19, 20, 21, 22, 23, 24, 25, 26, 27, 28,
  29, 30, 31, 32, 33, 34, 35, 36, 37, 38, 39, 40, 41, 42, 43, 44, 45, 46, 47, 48, 49, 50, 51, 52, 53, 54, 55]⟩, ⟨some 108, .mv, [.t 107], none, [0, 1, 2, 3, 4, 5, 6, 7, 8, 9, 10,
  11, 12, 13, 14, 15, 16, 17, 18, 19, 20, 21, 22, 23, 24, 25, 26, 27, 28, 29, 30, 31, 32, 33, 34, 35, 36, 37, 38, 39, 40, 41, 42, 43, 44, 45, 46, 47, 48, 49, 50, 51, 52, 53, 54,
  55, 56]⟩, ⟨some 109, .load 6 true, [.t 15], some (108, true), [0, 1, 2, 3, 4, 5, 6, 7, 8, 9, 10, 11, 12, 13, 14, 15, 16, 17, 18, 19, 20, 21, 22, 23, 24, 25, 26, 27, 28, 29, 30,
  31, 32, 33, 34, 35, 36, 37, 38, 39, 40, 41, 42, 43, 44, 45, 46, 47, 48, 49, 50, 51, 52, 53, 54, 55, 56, 57]⟩, ⟨some 110, .mv, [.t 16], some (108, true), [0, 1, 2, 3, 4, 5, 6, 7,
  8, 9, 10, 11, 12, 13, 14, 15, 16, 17, 18, 19, 20, 21, 22, 23, 24, 25, 26, 27, 28, 29, 30, 31, 32, 33, 34, 35, 36, 37, 38, 39, 40, 41, 42, 43, 44, 45, 46, 47, 48, 49, 50, 51, 52,
  53, 54, 55, 56, 57]⟩, ⟨some 111, .mv, [.t 19], some (108, true), [0, 1, 2, 3, 4, 5, 6, 7, 8, 9, 10, 11, 12, 13, 14, 15, 16, 17, 18, 19, 20, 21, 22, 23, 24, 25, 26, 27, 28, 29,
  30, 31, 32, 33, 34, 35, 36, 37, 38, 39, 40, 41, 42, 43, 44, 45, 46, 47, 48, 49, 50, 51, 52, 53, 54, 55, 56, 57]⟩, ⟨some 112, .mv, [.t 18], some (108, true), [0, 1, 2, 3, 4, 5, 6,
  7, 8, 9, 10, 11, 12, 13, 14, 15, 16, 17, 18, 19, 20, 21, 22, 23, 24, 25, 26, 27, 28, 29, 30, 31, 32, 33, 34, 35, 36, 37, 38, 39, 40, 41, 42, 43, 44, 45, 46, 47, 48, 49, 50, 51,
  52, 53, 54, 55, 56, 57]⟩, ⟨some 113, .mv, [.t 5], some (108, true), [0, 1, 2, 3, 4, 5, 6, 7, 8, 9, 10, 11, 12, 13, 14, 15, 16, 17, 18, 19, 20, 21, 22, 23, 24, 25, 26, 27, 28, 29,
  30, 31, 32, 33, 34, 35, 36, 37, 38, 39, 40, 41, 42, 43, 44, 45, 46, 47, 48, 49, 50, 51, 52, 53, 54, 55, 56, 57]⟩, ⟨some 114, .mv, [.t 6], some (108, true), [0, 1, 2, 3, 4, 5, 6,
  7, 8, 9, 10, 11, 12, 13, 14, 15, 16, 17, 18, 19, 20, 21, 22, 23, 24, 25, 26, 27, 28, 29, 30, 31, 32, 33, 34, 35, 36, 37, 38, 39, 40, 41, 42, 43, 44, 45, 46, 47, 48, 49, 50, 51,
  52, 53, 54, 55, 56, 57]⟩, ⟨some 115, .call 20 false, [.t 109, .t 110, .t 111, .t 112, .t 113, .t 114], some (108, true), [0, 1, 2, 3, 4, 5, 6, 7, 8, 9, 10, 11, 12, 13, 14, 15,
  16, 17, 18, 19, 20, 21, 22, 23, 24, 25, 26, 27, 28, 29, 30, 31, 32, 33, 34, 35, 36, 37, 38, 39, 40, 41, 42, 43, 44, 45, 46, 47, 48, 49, 50, 51, 52, 53, 54, 55, 56, 57, 58, 59,
  60, 61, 62, 63]⟩, ⟨some 116, .load 6 true, [.t 15], some (108, true), [0, 1, 2, 3, 4, 5, 6, 7, 8, 9, 10, 11, 12, 13, 14, 15, 16, 17, 18, 19, 20, 21, 22, 23, 24, 25, 26, 27, 28,
  29, 30, 31, 32, 33, 34, 35, 36, 37, 38, 39, 40, 41, 42, 43, 44, 45, 46, 47, 48, 49, 50, 51, 52, 53, 54, 55, 56, 57]⟩, ⟨some 117, .mv, [.t 16], some (108, true), [0, 1, 2, 3, 4,
  5, 6, 7, 8, 9, 10, 11, 12, 13, 14, 15, 16, 17, 18, 19, 20, 21, 22, 23, 24, 25, 26, 27, 28, 29, 30, 31, 32, 33, 34, 35, 36, 37, 38, 39, 40, 41, 42, 43, 44, 45, 46, 47, 48, 49, 50,
  51, 52, 53, 54, 55, 56, 57]⟩, ⟨some 118, .mv, [.t 19], some (108, true), [0, 1, 2, 3, 4, 5, 6, 7, 8, 9, 10, 11, 12, 13, 14, 15, 16, 17, 18, 19, 20, 21, 22, 23, 24, 25, 26, 27,
  28, 29, 30, 31, 32, 33, 34, 35, 36, 37, 38, 39, 40, 41, 42, 43, 44, 45, 46, 47, 48, 49, 50, 51, 52, 53, 54, 55, 56, 57]⟩, ⟨some 119, .mv, [.t 18], some (108, true), [0, 1, 2, 3,
  4, 5, 6, 7, 8, 9, 10, 11, 12, 13, 14, 15, 16, 17, 18, 19, 20, 21, 22, 23, 24, 25, 26, 27, 28, 29, 30, 31, 32, 33, 34, 35, 36, 37, 38, 39, 40, 41, 42, 43, 44, 45, 46, 47, 48, 49,
  50, 51, 52, 53, 54, 55, 56, 57]⟩, ⟨some 120, .mv, [.t 5], some (108, true), [0, 1, 2, 3, 4, 5, 6, 7, 8, 9, 10, 11, 12, 13, 14, 15, 16, 17, 18, 19, 20, 21, 22, 23, 24, 25, 26, 27,
  28, 29, 30, 31, 32, 33, 34, 35, 36, 37, 38, 39, 40, 41, 42, 43, 44, 45, 46, 47, 48, 49, 50, 51, 52, 53, 54, 55, 56, 57]⟩, ⟨some 121, .mv, [.t 6], some (108, true), [0, 1, 2, 3,
  4, 5, 6, 7, 8, 9, 10, 11, 12, 13, 14, 15, 16, 17, 18, 19, 20, 21, 22, 23, 24, 25, 26, 27, 28, 29, 30, 31, 32, 33, 34, 35, 36, 37, 38, 39, 40, 41, 42, 43, 44, 45, 46, 47, 48, 49,
  50, 51, 52, 53, 54, 55, 56, 57]⟩, ⟨some 122, .call 21 false, [.t 116, .t 117, .t 118, .t 119, .t 120, .t 121], some (108, true), [0, 1, 2, 3, 4, 5, 6, 7, 8, 9, 10, 11, 12, 13,
  14, 15, 16, 17, 18, 19, 20, 21, 22, 23, 24, 25, 26, 27, 28, 29, 30, 31, 32, 33, 34, 35, 36, 37, 38, 39, 40, 41, 42, 43, 44, 45, 46, 47, 48, 49, 50, 51, 52, 53, 54, 55, 56, 57,
  58, 59, 60, 61, 62, 63, 64, 65, 66, 67, 68, 69, 70]⟩, ⟨some 123, .bin .eql, [.t 115, .t 122], some (108, true), [0, 1, 2, 3, 4, 5, 6, 7, 8, 9, 10, 11, 12, 13, 14, 15, 16, 17, 18,
  19, 20, 21, 22, 23, 24, 25, 26, 27, 28, 29, 30, 31, 32, 33, 34, 35, 36, 37, 38, 39, 40, 41, 42, 43, 44, 45, 46, 47, 48, 49, 50, 51, 52, 53, 54, 55, 56, 57, 58, 59, 60, 61, 62,
  63, 64, 65, 66, 67, 68, 69, 70, 71]⟩, ⟨some 124, .pick, [.t 108, .t 123, .k (.d (.bool false))], none, [0, 1, 2, 3, 4, 5, 6, 7, 8, 9, 10, 11, 12, 13, 14, 15, 16, 17, 18, 19, 20,
  21, 22, 23, 24, 25, 26, 27, 28, 29, 30, 31, 32, 33, 34, 35, 36, 37, 38, 39, 40, 41, 42, 43, 44, 45, 46, 47, 48, 49, 50, 51, 52, 53, 54, 55, 56, 57, 58, 59, 60, 61, 62, 63, 64,
  65, 66, 67, 68, 69, 70, 71, 72]⟩, ⟨some 125, .mv, [.t 124], none, [0, 1, 2, 3, 4, 5, 6, 7, 8, 9, 10, 11, 12, 13, 14, 15, 16, 17, 18, 19, 20, 21, 22, 23, 24, 25, 26, 27, 28, 29,
  30, 31, 32, 33, 34, 35, 36, 37, 38, 39, 40, 41, 42, 43, 44, 45, 46, 47, 48, 49, 50, 51, 52, 53, 54, 55, 56, 57, 58, 59, 60, 61, 62, 63, 64, 65, 66, 67, 68, 69, 70, 71, 72, 73]⟩,
  ⟨some 126, .call 9 false, [], some (125, true), [0, 1, 2, 3, 4, 5, 6, 7, 8, 9, 10, 11, 12, 13, 14, 15, 16, 17, 18, 19, 20, 21, 22, 23, 24, 25, 26, 27, 28, 29, 30, 31, 32, 33, 34,
  35, 36, 37, 38, 39, 40, 41, 42, 43, 44, 45, 46, 47, 48, 49, 50, 51, 52, 53, 54, 55, 56, 57, 58, 59, 60, 61, 62, 63, 64, 65, 66, 67, 68, 69, 70, 71, 72, 73, 74]⟩, ⟨some 127,
  .pick, [.t 125, .t 126, .k (.d (.bool false))], none, [0, 1, 2, 3, 4, 5, 6, 7, 8, 9, 10, 11, 12, 13, 14, 15, 16, 17, 18, 19, 20, 21, 22, 23, 24, 25, 26, 27, 28, 29, 30, 31, 32,
  33, 34, 35, 36, 37, 38, 39, 40, 41, 42, 43, 44, 45, 46, 47, 48, 49, 50, 51, 52, 53, 54, 55, 56, 57, 58, 59, 60, 61, 62, 63, 64, 65, 66, 67, 68, 69, 70, 71, 72, 73, 74, 75]⟩,
  ⟨some 14, .mv, [.t 127], none, [0, 1, 2, 3, 4, 5, 6, 7, 8, 9, 10, 11, 12, 13, 14, 15, 16, 17, 18, 19, 20, 21, 22, 23, 24, 25, 26, 27, 28, 29, 30, 31, 32, 33, 34, 35, 36, 37, 38,
  39, 40, 41, 42, 43, 44, 45, 46, 47, 48, 49, 50, 51, 52, 53, 54, 55, 56, 57, 58, 59, 60, 61, 62, 63, 64, 65, 66, 67, 68, 69, 70, 71, 72, 73, 74, 75, 76]⟩] [14]) .ret)))))))
def passkeylaw12TokenVerifiesRr : List RR := [.t 14]
theorem passkeylaw12TokenVerifiesC : compFn Tryd.prog 5 passkeylaw12TokenVerifiesH = some (passkeylaw12TokenVerifiesRc, passkeylaw12TokenVerifiesRr, 128) := by kernel_rfl
theorem passkeylaw12TokenVerifiesOK (a0 : TApiToken) (a1 : Int) (a2 : Int) (a3 : Int) (a4 : List (BitVec 8)) (a5 : BitVec 64) (a6 : BitVec 64) (res : Bool) (h : passkeylaw12TokenVerifies a0 a1 a2 a3 a4 a5 a6 = some res) : CallOK Tryd.prog 5 [.d (eTApiToken a0), .d (eI a1), .d (eI a2), .d (eI a3), .d (eS a4), .d (eU64 a5), .d (eU64 a6)] [] (.d (eB res)) [] := by
  unfold passkeylaw12TokenVerifies at h
  refine callOK passkeylaw12TokenVerifiesC fm rfl ?_
  simp only [initE, initM, nbor, List.map_cons, List.map_nil, Nat.reduceAdd]
  unfold passkeylaw12TokenVerifiesRc
  refine rwp_seq fun K1 hK1 => ?_
  refine rwp_region fun K2 hK2 => ?_
  refine st1 128 rfl (mem' := [(64, .var .mine [.d (eU64 a0.Secret), .d (eB a0.Active), .d (eU64 a0.Value), .d (eI a0.Permissions), .d (eS a0.RP), .d (eI a0.Since)])]) (ok (bx (ps := [.d (eU64 a0.Secret), .d (eB a0.Active), .d (eU64 a0.Value), .d (eI a0.Permissions), .d (eS a0.RP), .d (eI a0.Since)]) rfl rfl)) rfl ?_
  refine st0 192 rfl (ok (mv (.d (eB false)))) ?_
  refine hK2 _ _ ?_
  simp only [n0, n1, n2, n3, n4, n5, n6, n7, n8, n9, n10, n11, n12, n13, n14, n15, n16, n17, n18, n19, reduceIte]
  refine hK1 _ _ _ ?_
  refine rwp_seq fun K3 hK3 => ?_
  refine rwp_join ([], []) 832 (fun env mem => ∃ (v4 : Bool), passkeylaw12TokenVerifiesJ1 a0 a1 a2 a3 a4 a5 a6 v4 = some res ∧ env = [(1, .d (eI a1)), (2, .d (eI a2)), (3, .d (eI a3)), (4, .d (eS a4)), (5, .d (eU64 a5)), (6, .d (eU64 a6)), (7, .ptr 64 0), (28, .d (eB v4))] ∧ mem = [(64, .var .mine [.d (eU64 a0.Secret), .d (eB a0.Active), .d (eU64 a0.Value), .d (eI a0.Permissions), .d (eS a0.RP), .d (eI a0.Since)])]) (fun _ _ hI => ?_) (fun K5 hK5 => ?_)
  · obtain ⟨v4, h, rfl, rfl⟩ := hI
    unfold passkeylaw12TokenVerifiesJ1 at h
    rcases Bool.eq_false_or_eq_true (v4) with h6 | h6
    · replace h := ite_t h h6
      refine rwp_t (isT h6) ?_
      refine rwp_seq fun K7 hK7 => ?_
      refine rwp_region fun K8 hK8 => ?_
      obtain ⟨y9, h10, h⟩ := bind_inv h
      refine st0 896 rfl (call_ok (v := .d (eB y9)) (u := []) ar_nil rfl (passkeylaw12awakeOK  y9 h10) rfl) ?_
      refine st0 960 rfl (ok (mv (.d (eB y9)))) ?_
      refine hK8 _ _ ?_
      simp only [n0, n1, n2, n3, n4, n5, n6, n7, n8, n9, n10, n11, n12, n13, n14, n15, n16, n17, n18, n19, reduceIte]
      refine hK7 _ _ _ ?_
      refine rwp_ret ?_
      obtain rfl := Option.some.inj h
      try simp only [thenK, blockK, reduceIte]
      exact Or.inl (end_ok trivial (rs_t (v := .d (eB y9)) rfl rs_nil) (en_d (to_d _) en_nil) ou_nil (by first | exact eok rfl rfl rfl rfl trivial | (refine eok ?_ ?_ ?_ ?_ ?_ <;> first | rfl | exact trivial | simp [retM, Mem.get, PV.renL, PV.ren, Blk.ren, comps, rhoR, rhoM, appN, PV.refsL, PV.refs, keys, nodupB, Blk.refs, allIn, Blk.bor])))
    · replace h := ite_f h h6
      refine rwp_f (isF h6) ?_
      refine rwp_skip ?_
      refine hK3 _ _ _ ?_
      refine rwp_seq fun K11 hK11 => ?_
      refine rwp_region fun K12 hK12 => ?_
      refine st0 896 rfl (ok (mv (.d (eI a1)))) ?_
      obtain ⟨y13, h14, h⟩ := bind_inv h
      refine st0 960 rfl (call_ok (v := .d (eTApiToken y13)) (u := []) (ar_d (eI a1) ar_nil) rfl (passkeylaw12madeOK a1 y13 h14) rfl) ?_
      refine st1 1024 rfl (mem' := [(960, .var .mine [.d (eU64 (0#64)), .d (eB false), .d (eU64 (0#64)), .d (eI (0 : Int)), .d (eS ([] : List (BitVec 8))), .d (eI (0 : Int))]), (64, .var .mine [.d (eU64 a0.Secret), .d (eB a0.Active), .d (eU64 a0.Value), .d (eI a0.Permissions), .d (eS a0.RP), .d (eI a0.Since)])]) (ok (alc (zs := [.d (eU64 (0#64)), .d (eB false), .d (eU64 (0#64)), .d (eI (0 : Int)), .d (eS ([] : List (BitVec 8))), .d (eI (0 : Int))]))) rfl ?_
      refine stn 1088 rfl (mem' := [(960, .var .mine [.d (eU64 y13.Secret), .d (eB y13.Active), .d (eU64 y13.Value), .d (eI y13.Permissions), .d (eS y13.RP), .d (eI y13.Since)]), (64, .var .mine [.d (eU64 a0.Secret), .d (eB a0.Active), .d (eU64 a0.Value), .d (eI a0.Permissions), .d (eS a0.RP), .d (eI a0.Since)])]) (ok (sto_v (ps' := [.d (eU64 y13.Secret), .d (eB y13.Active), .d (eU64 y13.Value), .d (eI y13.Permissions), .d (eS y13.RP), .d (eI y13.Since)]) rfl rfl rfl rfl)) rfl ?_
      refine hK12 _ _ ?_
      simp only [n0, n1, n2, n3, n4, n5, n6, n7, n8, n9, n10, n11, n12, n13, n14, n15, n16, n17, n18, n19, reduceIte]
      refine hK11 _ _ _ ?_
      refine rwp_seq fun K15 hK15 => ?_
      refine rwp_region fun K16 hK16 => ?_
      refine st0 1152 rfl (ok (fa_k 5 rfl)) ?_
      refine st0 1216 rfl (ok (ld_v (v := .d (eI y13.Since)) rfl rfl rfl)) ?_
      refine st0 1280 rfl (ok (mv (.d (eI a2)))) ?_
      refine st0 1344 rfl (ok (andI _ (255 : Int))) ?_
      refine st0 1408 rfl (ok (addI _ _)) ?_
      obtain ⟨v17, h18, h⟩ := lett_inv h
      refine st0e 1472 rfl (ok (subI _ (20 : Int))) (congrArg (fun z => PV.d (eI z)) h18) ?_
      refine st0 1536 rfl (ok (mv (.d (eI v17)))) ?_
      refine hK16 _ _ ?_
      simp only [n0, n1, n2, n3, n4, n5, n6, n7, n8, n9, n10, n11, n12, n13, n14, n15, n16, n17, n18, n19, reduceIte]
      refine hK15 _ _ _ ?_
      refine rwp_seq fun K19 hK19 => ?_
      refine rwp_region fun K20 hK20 => ?_
      refine st0 1600 rfl (ok (fa_k 2 rfl)) ?_
      refine st0 1664 rfl (ok (ld_v (v := .d (eU64 y13.Value)) rfl rfl rfl)) ?_
      refine st0 1728 rfl (ok (mv (.d (eU64 a5)))) ?_
      obtain ⟨y21, h22, h⟩ := bind_inv h
      refine st0 1792 rfl (call_ok (v := .d (eU64 y21)) (u := []) (ar_d (eU64 y13.Value) (ar_d (eU64 a5) ar_nil)) rfl (passkeyref10AuthorizeOK y13.Value a5 y21 h22) rfl) ?_
      refine st0 1856 rfl (ok (mv (.d (eU64 y21)))) ?_
      refine hK20 _ _ ?_
      simp only [n0, n1, n2, n3, n4, n5, n6, n7, n8, n9, n10, n11, n12, n13, n14, n15, n16, n17, n18, n19, reduceIte]
      refine hK19 _ _ _ ?_
      refine rwp_seq fun K23 hK23 => ?_
      refine rwp_region fun K24 hK24 => ?_
      refine st1 1920 rfl (mem' := [(1856, .row true 1 (([([] : List (BitVec 8)), ([97#8, 46#8, 101#8, 120#8, 97#8, 109#8, 112#8, 108#8, 101#8] : List (BitVec 8)), ([98#8, 46#8, 101#8, 120#8, 97#8, 109#8, 112#8, 108#8, 101#8] : List (BitVec 8))] : List (List (BitVec 8))).map eS)), (960, .var .mine [.d (eU64 y13.Secret), .d (eB y13.Active), .d (eU64 y13.Value), .d (eI y13.Permissions), .d (eS y13.RP), .d (eI y13.Since)]), (64, .var .mine [.d (eU64 a0.Secret), .d (eB a0.Active), .d (eU64 a0.Value), .d (eI a0.Permissions), .d (eS a0.RP), .d (eI a0.Since)])]) (ok (bsl (e := eS) (ys := ([([] : List (BitVec 8)), ([97#8, 46#8, 101#8, 120#8, 97#8, 109#8, 112#8, 108#8, 101#8] : List (BitVec 8)), ([98#8, 46#8, 101#8, 120#8, 97#8, 109#8, 112#8, 108#8, 101#8] : List (BitVec 8))] : List (List (BitVec 8)))) rfl rfl rfl)) rfl ?_
      refine st0 1984 rfl (ok (mv (.d (eI a1)))) ?_
      refine st0 2048 rfl (ok (shrII _ (by decide))) ?_
      refine st0 2112 rfl (ok (andI _ (3 : Int))) ?_
      obtain ⟨v25, h26, h⟩ := lett_inv h
      refine st0e 2176 rfl (ok (remI _ (3 : Int) (by decide))) (congrArg (fun z => PV.d (eI z)) h26) ?_
      obtain ⟨h27, h⟩ := asq_inv h
      refine st0 2240 rfl (ok (iaR (xs := ([([] : List (BitVec 8)), ([97#8, 46#8, 101#8, 120#8, 97#8, 109#8, 112#8, 108#8, 101#8] : List (BitVec 8)), ([98#8, 46#8, 101#8, 120#8, 97#8, 109#8, 112#8, 108#8, 101#8] : List (BitVec 8))] : List (List (BitVec 8)))) (e := eS) rfl rfl h27)) ?_
      refine st0 2304 rfl (ok (ld_r (e := eS) (xs := ([([] : List (BitVec 8)), ([97#8, 46#8, 101#8, 120#8, 97#8, 109#8, 112#8, 108#8, 101#8] : List (BitVec 8)), ([98#8, 46#8, 101#8, 120#8, 97#8, 109#8, 112#8, 108#8, 101#8] : List (BitVec 8))] : List (List (BitVec 8)))) ([] : List (BitVec 8)) rfl rfl (by have := h27; simp at this ⊢; omega) rfl)) ?_
      refine st0 2368 rfl (ok (mv (.d (eS (([([] : List (BitVec 8)), ([97#8, 46#8, 101#8, 120#8, 97#8, 109#8, 112#8, 108#8, 101#8] : List (BitVec 8)), ([98#8, 46#8, 101#8, 120#8, 97#8, 109#8, 112#8, 108#8, 101#8] : List (BitVec 8))] : List (List (BitVec 8))).getD (0 + v25.toNat) ([] : List (BitVec 8))))))) ?_
      refine hK24 _ _ ?_
      simp only [n0, n1, n2, n3, n4, n5, n6, n7, n8, n9, n10, n11, n12, n13, n14, n15, n16, n17, n18, n19, reduceIte]
      refine hK23 _ _ _ ?_
      refine rwp_seq fun K28 hK28 => ?_
      refine rwp_region fun K29 hK29 => ?_
      refine st0 2432 rfl (ok (mv (.d (eI a3)))) ?_
      refine st0 2496 rfl (ok (andI _ (7 : Int))) ?_
      refine st0 2560 rfl (ok (mv (.d (eI (ibits .and .i64 a3 (7 : Int)))))) ?_
      refine hK29 _ _ ?_
      simp only [n0, n1, n2, n3, n4, n5, n6, n7, n8, n9, n10, n11, n12, n13, n14, n15, n16, n17, n18, n19, reduceIte]
      refine hK28 _ _ _ ?_
      refine rwp_seq fun K30 hK30 => ?_
      refine rwp_draw fun K31 hK31 => ?_
      refine dr0 2624 rfl (ok (ld_v (v := .d (.agg [eU64 a0.Secret, eB a0.Active, eU64 a0.Value, eI a0.Permissions, eS a0.RP, eI a0.Since])) rfl rfl rfl)) (by kernel_rfl) ?_
      refine dr0 2688 rfl (ok (mv (.d (eI a2)))) (by kernel_rfl) ?_
      refine dr0 2752 rfl (ok (mv (.d (eI a3)))) (by kernel_rfl) ?_
      refine dr0 2816 rfl (ok (mv (.d (eS a4)))) (by kernel_rfl) ?_
      refine dr0 2880 rfl (ok (mv (.d (eU64 a5)))) (by kernel_rfl) ?_
      refine dr0 2944 rfl (ok (mv (.d (eU64 a6)))) (by kernel_rfl) ?_
      obtain ⟨y32, h33, h⟩ := bind_inv h
      refine dr0 3008 rfl (call_ok (v := .d (eI y32)) (u := []) (ar_d (eTApiToken (TApiToken.mk a0.Secret a0.Active a0.Value a0.Permissions a0.RP a0.Since)) (ar_d (eI a2) (ar_d (eI a3) (ar_d (eS a4) (ar_d (eU64 a5) (ar_d (eU64 a6) ar_nil)))))) rfl (tokenVerifyOK (TApiToken.mk a0.Secret a0.Active a0.Value a0.Permissions a0.RP a0.Since) a2 a3 a4 a5 a6 y32 h33) rfl) (by kernel_rfl) ?_
      refine dr0 3072 rfl (ok (ld_v (v := .d (.agg [eU64 a0.Secret, eB a0.Active, eU64 a0.Value, eI a0.Permissions, eS a0.RP, eI a0.Since])) rfl rfl rfl)) (by kernel_rfl) ?_
      refine dr0 3136 rfl (ok (mv (.d (eI a2)))) (by kernel_rfl) ?_
      refine dr0 3200 rfl (ok (mv (.d (eI a3)))) (by kernel_rfl) ?_
      refine dr0 3264 rfl (ok (mv (.d (eS a4)))) (by kernel_rfl) ?_
      refine dr0 3328 rfl (ok (mv (.d (eU64 a5)))) (by kernel_rfl) ?_
      refine dr0 3392 rfl (ok (mv (.d (eU64 a6)))) (by kernel_rfl) ?_
      obtain ⟨y34, h35, h⟩ := bind_inv h
      refine dr0 3456 rfl (call_ok (v := .d (eI y34)) (u := []) (ar_d (eTApiToken (TApiToken.mk a0.Secret a0.Active a0.Value a0.Permissions a0.RP a0.Since)) (ar_d (eI a2) (ar_d (eI a3) (ar_d (eS a4) (ar_d (eU64 a5) (ar_d (eU64 a6) ar_nil)))))) rfl (passkeyref10VerifyTokenOK (TApiToken.mk a0.Secret a0.Active a0.Value a0.Permissions a0.RP a0.Since) a2 a3 a4 a5 a6 y34 h35) rfl) (by kernel_rfl) ?_
      refine dr0 3520 rfl (ok (eqlI _ _)) (by kernel_rfl) ?_
      refine dr0 3584 rfl (ok (mv (.d (eB (y32 == y34))))) (by kernel_rfl) ?_
      rcases Bool.eq_false_or_eq_true ((y32 == y34)) with h36 | h36
      · replace h := ite_t h h36
        refine drG (isT h36) ?_
        refine dr0 3648 rfl (ok (ld_v (v := .d (.agg [eU64 a0.Secret, eB a0.Active, eU64 a0.Value, eI a0.Permissions, eS a0.RP, eI a0.Since])) rfl rfl rfl)) (by kernel_rfl) ?_
        refine drG (isT h36) ?_
        refine dr0 3712 rfl (ok (mv (.d (eI a2)))) (by kernel_rfl) ?_
        refine drG (isT h36) ?_
        refine dr0 3776 rfl (ok (mv (.d (eI a3)))) (by kernel_rfl) ?_
        refine drG (isT h36) ?_
        refine dr0 3840 rfl (ok (fa_k 4 rfl)) (by kernel_rfl) ?_
        refine drG (isT h36) ?_
        refine dr0 3904 rfl (ok (ld_v (v := .d (eS a0.RP)) rfl rfl rfl)) (by kernel_rfl) ?_
        refine drG (isT h36) ?_
        refine dr0 3968 rfl (ok (mv (.d (eU64 a5)))) (by kernel_rfl) ?_
        refine drG (isT h36) ?_
        refine dr0 4032 rfl (ok (fa_k 2 rfl)) (by kernel_rfl) ?_
        refine drG (isT h36) ?_
        refine dr0 4096 rfl (ok (ld_v (v := .d (eU64 a0.Value)) rfl rfl rfl)) (by kernel_rfl) ?_
        refine drG (isT h36) ?_
        refine dr0 4160 rfl (ok (mv (.d (eU64 a5)))) (by kernel_rfl) ?_
        refine drG (isT h36) ?_
        obtain ⟨y37, h38, h⟩ := bind_inv h
        refine dr0 4224 rfl (call_ok (v := .d (eU64 y37)) (u := []) (ar_d (eU64 a0.Value) (ar_d (eU64 a5) ar_nil)) rfl (tokenAuthorizeOK a0.Value a5 y37 h38) rfl) (by kernel_rfl) ?_
        refine drG (isT h36) ?_
        obtain ⟨y39, h40, h⟩ := bind_inv h
        refine dr0 4288 rfl (call_ok (v := .d (eI y39)) (u := []) (ar_d (eTApiToken (TApiToken.mk a0.Secret a0.Active a0.Value a0.Permissions a0.RP a0.Since)) (ar_d (eI a2) (ar_d (eI a3) (ar_d (eS a0.RP) (ar_d (eU64 a5) (ar_d (eU64 y37) ar_nil)))))) rfl (tokenVerifyOK (TApiToken.mk a0.Secret a0.Active a0.Value a0.Permissions a0.RP a0.Since) a2 a3 a0.RP a5 y37 y39 h40) rfl) (by kernel_rfl) ?_
        refine drG (isT h36) ?_
        refine dr0 4352 rfl (ok (ld_v (v := .d (.agg [eU64 a0.Secret, eB a0.Active, eU64 a0.Value, eI a0.Permissions, eS a0.RP, eI a0.Since])) rfl rfl rfl)) (by kernel_rfl) ?_
        refine drG (isT h36) ?_
        refine dr0 4416 rfl (ok (mv (.d (eI a2)))) (by kernel_rfl) ?_
        refine drG (isT h36) ?_
        refine dr0 4480 rfl (ok (mv (.d (eI a3)))) (by kernel_rfl) ?_
        refine drG (isT h36) ?_
        refine dr0 4544 rfl (ok (fa_k 4 rfl)) (by kernel_rfl) ?_
        refine drG (isT h36) ?_
        refine dr0 4608 rfl (ok (ld_v (v := .d (eS a0.RP)) rfl rfl rfl)) (by kernel_rfl) ?_
        refine drG (isT h36) ?_
        refine dr0 4672 rfl (ok (mv (.d (eU64 a5)))) (by kernel_rfl) ?_
        refine drG (isT h36) ?_
        refine dr0 4736 rfl (ok (fa_k 2 rfl)) (by kernel_rfl) ?_
        refine drG (isT h36) ?_
        refine dr0 4800 rfl (ok (ld_v (v := .d (eU64 a0.Value)) rfl rfl rfl)) (by kernel_rfl) ?_
        refine drG (isT h36) ?_
        refine dr0 4864 rfl (ok (mv (.d (eU64 a5)))) (by kernel_rfl) ?_
        refine drG (isT h36) ?_
        obtain ⟨y41, h42, h⟩ := bind_inv h
        refine dr0 4928 rfl (call_ok (v := .d (eU64 y41)) (u := []) (ar_d (eU64 a0.Value) (ar_d (eU64 a5) ar_nil)) rfl (passkeyref10AuthorizeOK a0.Value a5 y41 h42) rfl) (by kernel_rfl) ?_
        refine drG (isT h36) ?_
        obtain ⟨y43, h44, h⟩ := bind_inv h
        refine dr0 4992 rfl (call_ok (v := .d (eI y43)) (u := []) (ar_d (eTApiToken (TApiToken.mk a0.Secret a0.Active a0.Value a0.Permissions a0.RP a0.Since)) (ar_d (eI a2) (ar_d (eI a3) (ar_d (eS a0.RP) (ar_d (eU64 a5) (ar_d (eU64 y41) ar_nil)))))) rfl (passkeyref10VerifyTokenOK (TApiToken.mk a0.Secret a0.Active a0.Value a0.Permissions a0.RP a0.Since) a2 a3 a0.RP a5 y41 y43 h44) rfl) (by kernel_rfl) ?_
        refine drG (isT h36) ?_
        refine dr0 5056 rfl (ok (eqlI _ _)) (by kernel_rfl) ?_
        refine dr0 5120 rfl (ok (pick_t h36 (.d (eB (y39 == y43))) _)) (by kernel_rfl) ?_
        refine dr0 5184 rfl (ok (mv (.d (eB (y39 == y43))))) (by kernel_rfl) ?_
        rcases Bool.eq_false_or_eq_true ((y39 == y43)) with h45 | h45
        · replace h := ite_t h h45
          refine drG (isT h45) ?_
          refine dr0 5248 rfl (ok (ld_v (v := .d (.agg [eU64 y13.Secret, eB y13.Active, eU64 y13.Value, eI y13.Permissions, eS y13.RP, eI y13.Since])) rfl rfl rfl)) (by kernel_rfl) ?_
          refine drG (isT h45) ?_
          refine dr0 5312 rfl (ok (mv (.d (eI v17)))) (by kernel_rfl) ?_
          refine drG (isT h45) ?_
          refine dr0 5376 rfl (ok (mv (.d (eI (ibits .and .i64 a3 (7 : Int)))))) (by kernel_rfl) ?_
          refine drG (isT h45) ?_
          refine dr0 5440 rfl (ok (mv (.d (eS (([([] : List (BitVec 8)), ([97#8, 46#8, 101#8, 120#8, 97#8, 109#8, 112#8, 108#8, 101#8] : List (BitVec 8)), ([98#8, 46#8, 101#8, 120#8, 97#8, 109#8, 112#8, 108#8, 101#8] : List (BitVec 8))] : List (List (BitVec 8))).getD (0 + v25.toNat) ([] : List (BitVec 8))))))) (by kernel_rfl) ?_
          refine drG (isT h45) ?_
          refine dr0 5504 rfl (ok (mv (.d (eU64 a5)))) (by kernel_rfl) ?_
          refine drG (isT h45) ?_
          refine dr0 5568 rfl (ok (mv (.d (eU64 y21)))) (by kernel_rfl) ?_
          refine drG (isT h45) ?_
          obtain ⟨y46, h47, h⟩ := bind_inv h
          refine dr0 5632 rfl (call_ok (v := .d (eI y46)) (u := []) (ar_d (eTApiToken (TApiToken.mk y13.Secret y13.Active y13.Value y13.Permissions y13.RP y13.Since)) (ar_d (eI v17) (ar_d (eI (ibits .and .i64 a3 (7 : Int))) (ar_d (eS (([([] : List (BitVec 8)), ([97#8, 46#8, 101#8, 120#8, 97#8, 109#8, 112#8, 108#8, 101#8] : List (BitVec 8)), ([98#8, 46#8, 101#8, 120#8, 97#8, 109#8, 112#8, 108#8, 101#8] : List (BitVec 8))] : List (List (BitVec 8))).getD (0 + v25.toNat) ([] : List (BitVec 8)))) (ar_d (eU64 a5) (ar_d (eU64 y21) ar_nil)))))) rfl (tokenVerifyOK (TApiToken.mk y13.Secret y13.Active y13.Value y13.Permissions y13.RP y13.Since) v17 (ibits .and .i64 a3 (7 : Int)) (([([] : List (BitVec 8)), ([97#8, 46#8, 101#8, 120#8, 97#8, 109#8, 112#8, 108#8, 101#8] : List (BitVec 8)), ([98#8, 46#8, 101#8, 120#8, 97#8, 109#8, 112#8, 108#8, 101#8] : List (BitVec 8))] : List (List (BitVec 8))).getD (0 + v25.toNat) ([] : List (BitVec 8))) a5 y21 y46 h47) rfl) (by kernel_rfl) ?_
          refine drG (isT h45) ?_
          refine dr0 5696 rfl (ok (ld_v (v := .d (.agg [eU64 y13.Secret, eB y13.Active, eU64 y13.Value, eI y13.Permissions, eS y13.RP, eI y13.Since])) rfl rfl rfl)) (by kernel_rfl) ?_
          refine drG (isT h45) ?_
          refine dr0 5760 rfl (ok (mv (.d (eI v17)))) (by kernel_rfl) ?_
          refine drG (isT h45) ?_
          refine dr0 5824 rfl (ok (mv (.d (eI (ibits .and .i64 a3 (7 : Int)))))) (by kernel_rfl) ?_
          refine drG (isT h45) ?_
          refine dr0 5888 rfl (ok (mv (.d (eS (([([] : List (BitVec 8)), ([97#8, 46#8, 101#8, 120#8, 97#8, 109#8, 112#8, 108#8, 101#8] : List (BitVec 8)), ([98#8, 46#8, 101#8, 120#8, 97#8, 109#8, 112#8, 108#8, 101#8] : List (BitVec 8))] : List (List (BitVec 8))).getD (0 + v25.toNat) ([] : List (BitVec 8))))))) (by kernel_rfl) ?_
          refine drG (isT h45) ?_
          refine dr0 5952 rfl (ok (mv (.d (eU64 a5)))) (by kernel_rfl) ?_
          refine drG (isT h45) ?_
          refine dr0 6016 rfl (ok (mv (.d (eU64 y21)))) (by kernel_rfl) ?_
          refine drG (isT h45) ?_
          obtain ⟨y48, h49, h⟩ := bind_inv h
          refine dr0 6080 rfl (call_ok (v := .d (eI y48)) (u := []) (ar_d (eTApiToken (TApiToken.mk y13.Secret y13.Active y13.Value y13.Permissions y13.RP y13.Since)) (ar_d (eI v17) (ar_d (eI (ibits .and .i64 a3 (7 : Int))) (ar_d (eS (([([] : List (BitVec 8)), ([97#8, 46#8, 101#8, 120#8, 97#8, 109#8, 112#8, 108#8, 101#8] : List (BitVec 8)), ([98#8, 46#8, 101#8, 120#8, 97#8, 109#8, 112#8, 108#8, 101#8] : List (BitVec 8))] : List (List (BitVec 8))).getD (0 + v25.toNat) ([] : List (BitVec 8)))) (ar_d (eU64 a5) (ar_d (eU64 y21) ar_nil)))))) rfl (passkeyref10VerifyTokenOK (TApiToken.mk y13.Secret y13.Active y13.Value y13.Permissions y13.RP y13.Since) v17 (ibits .and .i64 a3 (7 : Int)) (([([] : List (BitVec 8)), ([97#8, 46#8, 101#8, 120#8, 97#8, 109#8, 112#8, 108#8, 101#8] : List (BitVec 8)), ([98#8, 46#8, 101#8, 120#8, 97#8, 109#8, 112#8, 108#8, 101#8] : List (BitVec 8))] : List (List (BitVec 8))).getD (0 + v25.toNat) ([] : List (BitVec 8))) a5 y21 y48 h49) rfl) (by kernel_rfl) ?_
          refine drG (isT h45) ?_
          refine dr0 6144 rfl (ok (eqlI _ _)) (by kernel_rfl) ?_
          refine dr0 6208 rfl (ok (pick_t h45 (.d (eB (y46 == y48))) _)) (by kernel_rfl) ?_
          refine dr0 6272 rfl (ok (mv (.d (eB (y46 == y48))))) (by kernel_rfl) ?_
          rcases Bool.eq_false_or_eq_true ((y46 == y48)) with h50 | h50
          · replace h := ite_t h h50
            refine drG (isT h50) ?_
            refine dr0 6336 rfl (ok (ld_v (v := .d (.agg [eU64 y13.Secret, eB y13.Active, eU64 y13.Value, eI y13.Permissions, eS y13.RP, eI y13.Since])) rfl rfl rfl)) (by kernel_rfl) ?_
            refine drG (isT h50) ?_
            refine dr0 6400 rfl (ok (mv (.d (eI v17)))) (by kernel_rfl) ?_
            refine drG (isT h50) ?_
            refine dr0 6464 rfl (ok (mv (.d (eI (ibits .and .i64 a3 (7 : Int)))))) (by kernel_rfl) ?_
            refine drG (isT h50) ?_
            refine dr0 6528 rfl (ok (mv (.d (eS (([([] : List (BitVec 8)), ([97#8, 46#8, 101#8, 120#8, 97#8, 109#8, 112#8, 108#8, 101#8] : List (BitVec 8)), ([98#8, 46#8, 101#8, 120#8, 97#8, 109#8, 112#8, 108#8, 101#8] : List (BitVec 8))] : List (List (BitVec 8))).getD (0 + v25.toNat) ([] : List (BitVec 8))))))) (by kernel_rfl) ?_
            refine drG (isT h50) ?_
            refine dr0 6592 rfl (ok (mv (.d (eU64 a5)))) (by kernel_rfl) ?_
            refine drG (isT h50) ?_
            refine dr0 6656 rfl (ok (mv (.d (eU64 a6)))) (by kernel_rfl) ?_
            refine drG (isT h50) ?_
            obtain ⟨y51, h52, h⟩ := bind_inv h
            refine dr0 6720 rfl (call_ok (v := .d (eI y51)) (u := []) (ar_d (eTApiToken (TApiToken.mk y13.Secret y13.Active y13.Value y13.Permissions y13.RP y13.Since)) (ar_d (eI v17) (ar_d (eI (ibits .and .i64 a3 (7 : Int))) (ar_d (eS (([([] : List (BitVec 8)), ([97#8, 46#8, 101#8, 120#8, 97#8, 109#8, 112#8, 108#8, 101#8] : List (BitVec 8)), ([98#8, 46#8, 101#8, 120#8, 97#8, 109#8, 112#8, 108#8, 101#8] : List (BitVec 8))] : List (List (BitVec 8))).getD (0 + v25.toNat) ([] : List (BitVec 8)))) (ar_d (eU64 a5) (ar_d (eU64 a6) ar_nil)))))) rfl (tokenVerifyOK (TApiToken.mk y13.Secret y13.Active y13.Value y13.Permissions y13.RP y13.Since) v17 (ibits .and .i64 a3 (7 : Int)) (([([] : List (BitVec 8)), ([97#8, 46#8, 101#8, 120#8, 97#8, 109#8, 112#8, 108#8, 101#8] : List (BitVec 8)), ([98#8, 46#8, 101#8, 120#8, 97#8, 109#8, 112#8, 108#8, 101#8] : List (BitVec 8))] : List (List (BitVec 8))).getD (0 + v25.toNat) ([] : List (BitVec 8))) a5 a6 y51 h52) rfl) (by kernel_rfl) ?_
            refine drG (isT h50) ?_
            refine dr0 6784 rfl (ok (ld_v (v := .d (.agg [eU64 y13.Secret, eB y13.Active, eU64 y13.Value, eI y13.Permissions, eS y13.RP, eI y13.Since])) rfl rfl rfl)) (by kernel_rfl) ?_
            refine drG (isT h50) ?_
            refine dr0 6848 rfl (ok (mv (.d (eI v17)))) (by kernel_rfl) ?_
            refine drG (isT h50) ?_
            refine dr0 6912 rfl (ok (mv (.d (eI (ibits .and .i64 a3 (7 : Int)))))) (by kernel_rfl) ?_
            refine drG (isT h50) ?_
            refine dr0 6976 rfl (ok (mv (.d (eS (([([] : List (BitVec 8)), ([97#8, 46#8, 101#8, 120#8, 97#8, 109#8, 112#8, 108#8, 101#8] : List (BitVec 8)), ([98#8, 46#8, 101#8, 120#8, 97#8, 109#8, 112#8, 108#8, 101#8] : List (BitVec 8))] : List (List (BitVec 8))).getD (0 + v25.toNat) ([] : List (BitVec 8))))))) (by kernel_rfl) ?_
            refine drG (isT h50) ?_
            refine dr0 7040 rfl (ok (mv (.d (eU64 a5)))) (by kernel_rfl) ?_
            refine drG (isT h50) ?_
            refine dr0 7104 rfl (ok (mv (.d (eU64 a6)))) (by kernel_rfl) ?_
            refine drG (isT h50) ?_
            obtain ⟨y53, h54, h⟩ := bind_inv h
            refine dr0 7168 rfl (call_ok (v := .d (eI y53)) (u := []) (ar_d (eTApiToken (TApiToken.mk y13.Secret y13.Active y13.Value y13.Permissions y13.RP y13.Since)) (ar_d (eI v17) (ar_d (eI (ibits .and .i64 a3 (7 : Int))) (ar_d (eS (([([] : List (BitVec 8)), ([97#8, 46#8, 101#8, 120#8, 97#8, 109#8, 112#8, 108#8, 101#8] : List (BitVec 8)), ([98#8, 46#8, 101#8, 120#8, 97#8, 109#8, 112#8, 108#8, 101#8] : List (BitVec 8))] : List (List (BitVec 8))).getD (0 + v25.toNat) ([] : List (BitVec 8)))) (ar_d (eU64 a5) (ar_d (eU64 a6) ar_nil)))))) rfl (passkeyref10VerifyTokenOK (TApiToken.mk y13.Secret y13.Active y13.Value y13.Permissions y13.RP y13.Since) v17 (ibits .and .i64 a3 (7 : Int)) (([([] : List (BitVec 8)), ([97#8, 46#8, 101#8, 120#8, 97#8, 109#8, 112#8, 108#8, 101#8] : List (BitVec 8)), ([98#8, 46#8, 101#8, 120#8, 97#8, 109#8, 112#8, 108#8, 101#8] : List (BitVec 8))] : List (List (BitVec 8))).getD (0 + v25.toNat) ([] : List (BitVec 8))) a5 a6 y53 h54) rfl) (by kernel_rfl) ?_
            refine drG (isT h50) ?_
            refine dr0 7232 rfl (ok (eqlI _ _)) (by kernel_rfl) ?_
            refine dr0 7296 rfl (ok (pick_t h50 (.d (eB (y51 == y53))) _)) (by kernel_rfl) ?_
            refine dr0 7360 rfl (ok (mv (.d (eB (y51 == y53))))) (by kernel_rfl) ?_
            rcases Bool.eq_false_or_eq_true ((y51 == y53)) with h55 | h55
            · replace h := ite_t h h55
              refine drG (isT h55) ?_
              obtain ⟨y56, h57, h⟩ := bind_inv h
              refine dr0 7424 rfl (call_ok (v := .d (eB y56)) (u := []) ar_nil rfl (passkeylaw12awakeOK  y56 h57) rfl) (by kernel_rfl) ?_
              refine dr0 7488 rfl (ok (pick_t h55 (.d (eB y56)) _)) (by kernel_rfl) ?_
              refine dr0 7552 rfl (ok (mv (.d (eB y56)))) (by kernel_rfl) ?_
              refine hK31 _ _ ?_
              simp only [n0, n1, n2, n3, n4, n5, n6, n7, n8, n9, n10, n11, n12, n13, n14, n15, n16, n17, n18, n19, reduceIte]
              refine hK30 _ _ _ ?_
              refine rwp_ret ?_
              obtain rfl := Option.some.inj h
              try simp only [thenK, blockK, reduceIte]
              exact Or.inl (end_ok trivial (rs_t (v := .d (eB y56)) rfl rs_nil) (en_d (to_d _) en_nil) ou_nil (by first | exact eok rfl rfl rfl rfl trivial | (refine eok ?_ ?_ ?_ ?_ ?_ <;> first | rfl | exact trivial | simp [retM, Mem.get, PV.renL, PV.ren, Blk.ren, comps, rhoR, rhoM, appN, PV.refsL, PV.refs, keys, nodupB, Blk.refs, allIn, Blk.bor])))
            · replace h := ite_f h h55
              refine drGN 7424 rfl rfl h55 ?_
              refine dr0 7488 rfl (ok (pick_f h55 _ (.d (eB false)))) (by kernel_rfl) ?_
              refine dr0 7552 rfl (ok (mv (.d (eB false)))) (by kernel_rfl) ?_
              refine hK31 _ _ ?_
              simp only [n0, n1, n2, n3, n4, n5, n6, n7, n8, n9, n10, n11, n12, n13, n14, n15, n16, n17, n18, n19, reduceIte]
              refine hK30 _ _ _ ?_
              refine rwp_ret ?_
              obtain rfl := Option.some.inj h
              try simp only [thenK, blockK, reduceIte]
              exact Or.inl (end_ok trivial (rs_t (v := .d (eB false)) rfl rs_nil) (en_d (to_d _) en_nil) ou_nil (by first | exact eok rfl rfl rfl rfl trivial | (refine eok ?_ ?_ ?_ ?_ ?_ <;> first | rfl | exact trivial | simp [retM, Mem.get, PV.renL, PV.ren, Blk.ren, comps, rhoR, rhoM, appN, PV.refsL, PV.refs, keys, nodupB, Blk.refs, allIn, Blk.bor])))
          · replace h := ite_f h h50
            refine drGN 6336 rfl rfl h50 ?_
            refine drGN 6400 rfl rfl h50 ?_
            refine drGN 6464 rfl rfl h50 ?_
            refine drGN 6528 rfl rfl h50 ?_
            refine drGN 6592 rfl rfl h50 ?_
            refine drGN 6656 rfl rfl h50 ?_
            refine drGN 6720 rfl rfl h50 ?_
            refine drGN 6784 rfl rfl h50 ?_
            refine drGN 6848 rfl rfl h50 ?_
            refine drGN 6912 rfl rfl h50 ?_
            refine drGN 6976 rfl rfl h50 ?_
            refine drGN 7040 rfl rfl h50 ?_
            refine drGN 7104 rfl rfl h50 ?_
            refine drGN 7168 rfl rfl h50 ?_
            refine drGN 7232 rfl rfl h50 ?_
            refine dr0 7296 rfl (ok (pick_f h50 _ (.d (eB false)))) (by kernel_rfl) ?_
            refine dr0 7360 rfl (ok (mv (.d (eB false)))) (by kernel_rfl) ?_
            refine drGN 7424 rfl rfl rfl ?_
            refine dr0 7488 rfl (ok (pick_f rfl _ (.d (eB false)))) (by kernel_rfl) ?_
            refine dr0 7552 rfl (ok (mv (.d (eB false)))) (by kernel_rfl) ?_
            refine hK31 _ _ ?_
            simp only [n0, n1, n2, n3, n4, n5, n6, n7, n8, n9, n10, n11, n12, n13, n14, n15, n16, n17, n18, n19, reduceIte]
            refine hK30 _ _ _ ?_
            refine rwp_ret ?_
            obtain rfl := Option.some.inj h
            try simp only [thenK, blockK, reduceIte]
            exact Or.inl (end_ok trivial (rs_t (v := .d (eB false)) rfl rs_nil) (en_d (to_d _) en_nil) ou_nil (by first | exact eok rfl rfl rfl rfl trivial | (refine eok ?_ ?_ ?_ ?_ ?_ <;> first | rfl | exact trivial | simp [retM, Mem.get, PV.renL, PV.ren, Blk.ren, comps, rhoR, rhoM, appN, PV.refsL, PV.refs, keys, nodupB, Blk.refs, allIn, Blk.bor])))
        · replace h := ite_f h h45
          refine drGN 5248 rfl rfl h45 ?_
          refine drGN 5312 rfl rfl h45 ?_
          refine drGN 5376 rfl rfl h45 ?_
          refine drGN 5440 rfl rfl h45 ?_
          refine drGN 5504 rfl rfl h45 ?_
          refine drGN 5568 rfl rfl h45 ?_
          refine drGN 5632 rfl rfl h45 ?_
          refine drGN 5696 rfl rfl h45 ?_
          refine drGN 5760 rfl rfl h45 ?_
          refine drGN 5824 rfl rfl h45 ?_
          refine drGN 5888 rfl rfl h45 ?_
          refine drGN 5952 rfl rfl h45 ?_
          refine drGN 6016 rfl rfl h45 ?_
          refine drGN 6080 rfl rfl h45 ?_
          refine drGN 6144 rfl rfl h45 ?_
          refine dr0 6208 rfl (ok (pick_f h45 _ (.d (eB false)))) (by kernel_rfl) ?_
          refine dr0 6272 rfl (ok (mv (.d (eB false)))) (by kernel_rfl) ?_
          refine drGN 6336 rfl rfl rfl ?_
          refine drGN 6400 rfl rfl rfl ?_
          refine drGN 6464 rfl rfl rfl ?_
          refine drGN 6528 rfl rfl rfl ?_
          refine drGN 6592 rfl rfl rfl ?_
          refine drGN 6656 rfl rfl rfl ?_
          refine drGN 6720 rfl rfl rfl ?_
          refine drGN 6784 rfl rfl rfl ?_
          refine drGN 6848 rfl rfl rfl ?_
          refine drGN 6912 rfl rfl rfl ?_
          refine drGN 6976 rfl rfl rfl ?_
          refine drGN 7040 rfl rfl rfl ?_
          refine drGN 7104 rfl rfl rfl ?_
          refine drGN 7168 rfl rfl rfl ?_
          refine drGN 7232 rfl rfl rfl ?_
          refine dr0 7296 rfl (ok (pick_f rfl _ (.d (eB false)))) (by kernel_rfl) ?_
          refine dr0 7360 rfl (ok (mv (.d (eB false)))) (by kernel_rfl) ?_
          refine drGN 7424 rfl rfl rfl ?_
          refine dr0 7488 rfl (ok (pick_f rfl _ (.d (eB false)))) (by kernel_rfl) ?_
          refine dr0 7552 rfl (ok (mv (.d (eB false)))) (by kernel_rfl) ?_
          refine hK31 _ _ ?_
          simp only [n0, n1, n2, n3, n4, n5, n6, n7, n8, n9, n10, n11, n12, n13, n14, n15, n16, n17, n18, n19, reduceIte]
          refine hK30 _ _ _ ?_
          refine rwp_ret ?_
          obtain rfl := Option.some.inj h
          try simp only [thenK, blockK, reduceIte]
          exact Or.inl (end_ok trivial (rs_t (v := .d (eB false)) rfl rs_nil) (en_d (to_d _) en_nil) ou_nil (by first | exact eok rfl rfl rfl rfl trivial | (refine eok ?_ ?_ ?_ ?_ ?_ <;> first | rfl | exact trivial | simp [retM, Mem.get, PV.renL, PV.ren, Blk.ren, comps, rhoR, rhoM, appN, PV.refsL, PV.refs, keys, nodupB, Blk.refs, allIn, Blk.bor])))
      · replace h := ite_f h h36
        refine drGN 3648 rfl rfl h36 ?_
        refine drGN 3712 rfl rfl h36 ?_
        refine drGN 3776 rfl rfl h36 ?_
        refine drGN 3840 rfl rfl h36 ?_
        refine drGN 3904 rfl rfl h36 ?_
        refine drGN 3968 rfl rfl h36 ?_
        refine drGN 4032 rfl rfl h36 ?_
        refine drGN 4096 rfl rfl h36 ?_
        refine drGN 4160 rfl rfl h36 ?_
        refine drGN 4224 rfl rfl h36 ?_
        refine drGN 4288 rfl rfl h36 ?_
        refine drGN 4352 rfl rfl h36 ?_
        refine drGN 4416 rfl rfl h36 ?_
        refine drGN 4480 rfl rfl h36 ?_
        refine drGN 4544 rfl rfl h36 ?_
        refine drGN 4608 rfl rfl h36 ?_
        refine drGN 4672 rfl rfl h36 ?_
        refine drGN 4736 rfl rfl h36 ?_
        refine drGN 4800 rfl rfl h36 ?_
        refine drGN 4864 rfl rfl h36 ?_
        refine drGN 4928 rfl rfl h36 ?_
        refine drGN 4992 rfl rfl h36 ?_
        refine drGN 5056 rfl rfl h36 ?_
        refine dr0 5120 rfl (ok (pick_f h36 _ (.d (eB false)))) (by kernel_rfl) ?_
        refine dr0 5184 rfl (ok (mv (.d (eB false)))) (by kernel_rfl) ?_
        refine drGN 5248 rfl rfl rfl ?_
        refine drGN 5312 rfl rfl rfl ?_
        refine drGN 5376 rfl rfl rfl ?_
        refine drGN 5440 rfl rfl rfl ?_
        refine drGN 5504 rfl rfl rfl ?_
        refine drGN 5568 rfl rfl rfl ?_
        refine drGN 5632 rfl rfl rfl ?_
        refine drGN 5696 rfl rfl rfl ?_
        refine drGN 5760 rfl rfl rfl ?_
        refine drGN 5824 rfl rfl rfl ?_
        refine drGN 5888 rfl rfl rfl ?_
        refine drGN 5952 rfl rfl rfl ?_
        refine drGN 6016 rfl rfl rfl ?_
        refine drGN 6080 rfl rfl rfl ?_
        refine drGN 6144 rfl rfl rfl ?_
        refine dr0 6208 rfl (ok (pick_f rfl _ (.d (eB false)))) (by kernel_rfl) ?_
        refine dr0 6272 rfl (ok (mv (.d (eB false)))) (by kernel_rfl) ?_
        refine drGN 6336 rfl rfl rfl ?_
        refine drGN 6400 rfl rfl rfl ?_
        refine drGN 6464 rfl rfl rfl ?_
        refine drGN 6528 rfl rfl rfl ?_
        refine drGN 6592 rfl rfl rfl ?_
        refine drGN 6656 rfl rfl rfl ?_
        refine drGN 6720 rfl rfl rfl ?_
        refine drGN 6784 rfl rfl rfl ?_
        refine drGN 6848 rfl rfl rfl ?_
        refine drGN 6912 rfl rfl rfl ?_
        refine drGN 6976 rfl rfl rfl ?_
        refine drGN 7040 rfl rfl rfl ?_
        refine drGN 7104 rfl rfl rfl ?_
        refine drGN 7168 rfl rfl rfl ?_
        refine drGN 7232 rfl rfl rfl ?_
        refine dr0 7296 rfl (ok (pick_f rfl _ (.d (eB false)))) (by kernel_rfl) ?_
        refine dr0 7360 rfl (ok (mv (.d (eB false)))) (by kernel_rfl) ?_
        refine drGN 7424 rfl rfl rfl ?_
        refine dr0 7488 rfl (ok (pick_f rfl _ (.d (eB false)))) (by kernel_rfl) ?_
        refine dr0 7552 rfl (ok (mv (.d (eB false)))) (by kernel_rfl) ?_
        refine hK31 _ _ ?_
        simp only [n0, n1, n2, n3, n4, n5, n6, n7, n8, n9, n10, n11, n12, n13, n14, n15, n16, n17, n18, n19, reduceIte]
        refine hK30 _ _ _ ?_
        refine rwp_ret ?_
        obtain rfl := Option.some.inj h
        try simp only [thenK, blockK, reduceIte]
        exact Or.inl (end_ok trivial (rs_t (v := .d (eB false)) rfl rs_nil) (en_d (to_d _) en_nil) ou_nil (by first | exact eok rfl rfl rfl rfl trivial | (refine eok ?_ ?_ ?_ ?_ ?_ <;> first | rfl | exact trivial | simp [retM, Mem.get, PV.renL, PV.ren, Blk.ren, comps, rhoR, rhoM, appN, PV.refsL, PV.refs, keys, nodupB, Blk.refs, allIn, Blk.bor])))
  · refine rwp_region fun K58 hK58 => ?_
    refine st0 256 rfl (ok (mv (.d (eS a4)))) ?_
    refine st0 320 rfl (ok (lenS _)) ?_
    refine st0 384 rfl (ok (gtrI _ (100 : Int))) ?_
    refine st0 448 rfl (ok (mv (.d (eB (decide ((100 : Int) < (a4.length : Int))))))) ?_
    rcases Bool.eq_false_or_eq_true ((decide ((100 : Int) < (a4.length : Int)))) with h59 | h59
    · replace h := ite_t h h59
      refine stGN 512 rfl rfl h59 ?_
      refine stGN 576 rfl rfl h59 ?_
      refine stGN 640 rfl rfl h59 ?_
      refine stGN 704 rfl rfl h59 ?_
      refine st0 768 rfl (ok (pick_t h59 (.d (eB true)) _)) ?_
      refine hK58 _ _ ?_
      simp only [n0, n1, n2, n3, n4, n5, n6, n7, n8, n9, n10, n11, n12, n13, n14, n15, n16, n17, n18, n19, reduceIte]
      exact hK5 _ _ _ ⟨_, _, Settled.refl, _, _, ⟨_, h, rfl, rfl⟩, ⟨rfl, ⟨⟨rfl, rfl⟩, ⟨⟨rfl, rfl⟩, ⟨⟨rfl, rfl⟩, ⟨⟨rfl, rfl⟩, ⟨⟨rfl, rfl⟩, ⟨⟨rfl, rfl⟩, ⟨⟨rfl, rfl⟩, ⟨⟨rfl, rfl⟩, trivial⟩⟩⟩⟩⟩⟩⟩⟩, ⟨⟨rfl, rfl⟩, trivial⟩⟩, rfl⟩
    · replace h := ite_f h h59
      refine stG (isF h59) ?_
      refine st0 512 rfl (ok (fa_k 4 rfl)) ?_
      refine stG (isF h59) ?_
      refine st0 576 rfl (ok (ld_v (v := .d (eS a0.RP)) rfl rfl rfl)) ?_
      refine stG (isF h59) ?_
      refine st0 640 rfl (ok (lenS _)) ?_
      refine stG (isF h59) ?_
      refine st0 704 rfl (ok (gtrI _ (100 : Int))) ?_
      refine st0 768 rfl (ok (pick_f h59 _ (.d (eB (decide ((100 : Int) < (a0.RP.length : Int))))))) ?_
      refine hK58 _ _ ?_
      simp only [n0, n1, n2, n3, n4, n5, n6, n7, n8, n9, n10, n11, n12, n13, n14, n15, n16, n17, n18, n19, reduceIte]
      exact hK5 _ _ _ ⟨_, _, Settled.refl, _, _, ⟨_, h, rfl, rfl⟩, ⟨rfl, ⟨⟨rfl, rfl⟩, ⟨⟨rfl, rfl⟩, ⟨⟨rfl, rfl⟩, ⟨⟨rfl, rfl⟩, ⟨⟨rfl, rfl⟩, ⟨⟨rfl, rfl⟩, ⟨⟨rfl, rfl⟩, ⟨⟨rfl, rfl⟩, trivial⟩⟩⟩⟩⟩⟩⟩⟩, ⟨⟨rfl, rfl⟩, trivial⟩⟩, rfl⟩

end Go.Proofs.Ty
