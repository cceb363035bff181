/- Each Go function comes to what its plain function says. PRINTED by a program of this session (ty.py). -/
import Derived.Test.YtkiffaadahpbkaaS1
set_option linter.unusedVariables false
set_option linter.unusedSimpArgs false
set_option maxHeartbeats 4000000
set_option maxRecDepth 10000
namespace Go.Proofs.Ty
open Go Go.RW Go.Proofs
/-- passkey/sharing.At -/
def sharingAtH : Hints := ⟨[(0, [0, 1]), (1, [0, 1, 19]), (2, [4, 5]), (3, [0, 1, 25]), (4, [4, 5]), (5, [0, 1, 6]), (6, [0, 1, 6, 26, 27, 28]), (7, [0, 1, 6, 26, 27, 28, 29]), (8, [0, 1, 6, 8, 26, 27, 28]), (9, [0, 1, 6, 8, 26, 27, 28, 32]), (10, [4, 5]), (11, [0, 1, 6, 8, 26, 27, 28, 41]), (12, [4, 5]), (13, [0, 1, 6, 8, 26, 27, 28, 46]), (14, [4, 5]), (15, [0, 1, 6, 8, 26, 27, 28, 56]), (16, [4, 5]), (17, [0, 1, 6, 26, 27, 28]), (18, [0, 1, 6, 26, 27, 28]), (19, [0, 1, 9]), (20, [0, 1, 9, 71, 72, 73]), (21, [0, 1, 9, 71, 72, 73, 74]), (22, [0, 1, 9, 10, 11, 71, 72, 73]), (23, [0, 1, 9, 10, 11, 12, 71, 72, 73]), (24, [0, 1, 9, 10, 11, 12, 71, 72, 73, 78, 79, 80]), (25, [0, 1, 9, 10, 11, 12, 71, 72, 73, 78, 79, 80, 81]), (26, [0, 1, 9, 10, 11, 12, 13, 14, 71, 72, 73, 78, 79, 80]), (27, [0, 1, 9, 10, 11, 12, 14, 71, 72, 73, 78, 79, 80, 87]), (28, [0, 1, 9, 10, 11, 12, 71, 72, 73, 78, 79, 80]), (29, [0, 1, 9, 10, 11, 12, 71, 72, 73, 78, 79, 80]), (30, [0, 1, 9, 12, 71, 72, 73, 107, 108, 109]), (31, [0, 1, 9, 12, 71, 72, 73, 107, 108, 109, 110]), (32, [0, 1, 9, 12, 15, 16, 71, 72, 73, 107, 108, 109]), (33, [0, 1, 9, 12, 71, 72, 73, 107, 108, 109]), (34, [0, 1, 9, 12, 71, 72, 73, 107, 108, 109]), (35, [0, 1, 9, 71, 72, 73]), (36, [4, 5])], []⟩
def sharingAtRc : RCode :=
  .seq (.region false [⟨some 4, .mv, [.k (.nil 1)], none, []⟩, ⟨some 5, .mv, [.k (.d (.int .i64 0))], none, []⟩] [0, 1]) (.seq (.seq (.region false [⟨some 17, .mv, [.t 0], none, []⟩,
  ⟨some 18, .len, [.t 17], none, []⟩, ⟨some 19, .bin .eql, [.t 18, .k (.d (.int .i64 0))], none, []⟩] [0, 1, 19]) (.cond (.t 19) (.seq (.region false [⟨some 4, .mv, [.k (.nil 1)],
  none, []⟩, ⟨some 5, .mv, [.k (.d (.int .i64 1))], none, []⟩] [4, 5]) .ret) .skip)) (.seq (.seq (.region false [⟨some 20, .mv, [.t 1], none, []⟩, ⟨some 21, .bin .lss, [.t 20, .k
  (.d (.int .i64 0))], none, []⟩, ⟨some 22, .mv, [.t 21], none, []⟩, ⟨some 23, .mv, [.t 1], some (22, false), []⟩, ⟨some 24, .bin .gtr, [.t 23, .k (.d (.int .i64 255))], some (22,
  false), []⟩, ⟨some 25, .pick, [.t 22, .k (.d (.bool true)), .t 24], none, []⟩] [0, 1, 25]) (.cond (.t 25) (.seq (.region false [⟨some 4, .mv, [.k (.nil 1)], none, []⟩, ⟨some 5,
  .mv, [.k (.d (.int .i64 9))], none, []⟩] [4, 5]) .ret) .skip)) (.seq (.region false [⟨some 6, .alloc [.d (.bool false), .d (.bool false), .d (.bool false), .d (.bool false), .d
  (.bool false), .d (.bool false), .d (.bool false), .d (.bool false), .d (.bool false), .d (.bool false), .d (.bool false), .d (.bool false), .d (.bool false), .d (.bool false),
  .d (.bool false), .d (.bool false), .d (.bool false), .d (.bool false), .d (.bool false), .d (.bool false), .d (.bool false), .d (.bool false), .d (.bool false), .d (.bool
  false), .d (.bool false), .d (.bool false), .d (.bool false), .d (.bool false), .d (.bool false), .d (.bool false), .d (.bool false), .d (.bool false), .d (.bool false), .d
  (.bool false), .d (.bool false), .d (.bool false), .d (.bool false), .d (.bool false), .d (.bool false), .d (.bool false), .d (.bool false), .d (.bool false), .d (.bool false),
  .d (.bool false), .d (.bool false), .d (.bool false), .d (.bool false), .d (.bool false), .d (.bool false), .d (.bool false), .d (.bool false), .d (.bool false), .d (.bool
  false), .d (.bool false), .d (.bool false), .d (.bool false), .d (.bool false), .d (.bool false), .d (.bool false), .d (.bool false), .d (.bool false), .d (.bool false), .d
  (.bool false), .d (.bool false), .d (.bool false), .d (.bool false), .d (.bool false), .d (.bool false), .d (.bool false), .d (.bool false), .d (.bool false), .d (.bool false),
  .d (.bool false), .d (.bool false), .d (.bool false), .d (.bool false), .d (.bool false), .d (.bool false), .d (.bool false), .d (.bool false), .d (.bool false), .d (.bool
  false), .d (.bool false), .d (.bool false), .d (.bool false), .d (.bool false), .d (.bool false), .d (.bool false), .d (.bool false), .d (.bool false), .d (.bool false), .d
  (.bool false), .d (.bool false), .d (.bool false), .d (.bool false), .d (.bool false), .d (.bool false), .d (.bool false), .d (.bool false), .d (.bool false), .d (.bool false),
  .d (.bool false), .d (.bool false), .d (.bool false), .d (.bool false), .d (.bool false), .d (.bool false), .d (.bool false), .d (.bool false), .d (.bool false), .d (.bool
  false), .d (.bool false), .d (.bool false), .d (.bool false), .d (.bool false), .d (.bool false), .d (.bool false), .d (.bool false), .d (.bool false), .d (.bool false), .d
  (.bool false), .d (.bool false), .d (.bool false), .d (.bool false), .d (.bool false), .d (.bool false), .d (.bool false), .d (.bool false), .d (.bool false), .d (.bool false),
  .d (.bool false), .d (.bool false), .d (.bool false), .d (.bool false), .d (.bool false), .d (.bool false), .d (.bool false), .d (.bool false), .d (.bool false), .d (.bool
  false), .d (.bool false), .d (.bool false), .d (.bool false), .d (.bool false), .d (.bool false), .d (.bool false), .d (.bool false), .d (.bool false), .d (.bool false), .d
  (.bool false), .d (.bool false), .d (.bool false), .d (.bool false), .d (.bool false), .d (.bool false), .d (.bool false), .d (.bool false), .d (.bool false), .d (.bool false),
  .d (.bool false), .d (.bool false), .d (.bool false), .d (.bool false), .d (.bool false), .d (.bool false), .d (.bool false), .d (.bool false), .d (.bool false), .d (.bool
  false), .d (.bool false), .d (.bool false), .d (.bool false), .d (.bool false), .d (.bool false), .d (.bool false), .d (.bool false), .d (.bool false), .d (.bool false), .d
  (.bool false), .d (.bool false), .d (.bool false), .d (.bool false), .d (.bool false), .d (.bool false), .d (.bool false), .d (.bool false), .d (.bool false), .d (.bool false),
  .d (.bool false), .d (.bool false), .d (.bool false), .d (.bool false), .d (.bool false), .d (.bool false), .d (.bool false), .d (.bool false), .d (.bool false), .d (.bool
  false), .d (.bool false), .d (.bool false), .d (.bool false), .d (.bool false), .d (.bool false), .d (.bool false), .d (.bool false), .d (.bool false), .d (.bool false), .d
  (.bool false), .d (.bool false), .d (.bool false), .d (.bool false), .d (.bool false), .d (.bool false), .d (.bool false), .d (.bool false), .d (.bool false), .d (.bool false),
  .d (.bool false), .d (.bool false), .d (.bool false), .d (.bool false), .d (.bool false), .d (.bool false), .d (.bool false), .d (.bool false), .d (.bool false), .d (.bool
  false), .d (.bool false), .d (.bool false), .d (.bool false), .d (.bool false), .d (.bool false), .d (.bool false), .d (.bool false), .d (.bool false), .d (.bool false), .d
  (.bool false), .d (.bool false), .d (.bool false), .d (.bool false), .d (.bool false), .d (.bool false), .d (.bool false), .d (.bool false), .d (.bool false), .d (.bool false),
  .d (.bool false), .d (.bool false), .d (.bool false), .d (.bool false), .d (.bool false), .d (.bool false), .d (.bool false), .d (.bool false), .d (.bool false), .d (.bool
  false)], [], none, []⟩] [0, 1, 6]) (.seq (.seq (.region false [⟨some 26, .mv, [.t 0], none, []⟩, ⟨some 27, .len, [.t 26], none, []⟩, ⟨some 28, .mv, [.k (.d (.int .i64 0))], none,
  []⟩] [0, 1, 6, 26, 27, 28]) (.block 0 (.loop [] (.seq (.region false [⟨some 29, .bin .lss, [.t 28, .t 27], none, []⟩] [0, 1, 6, 26, 27, 28, 29]) (.seq (.cond (.t 29) .skip (.exit
  0)) (.seq (.block 1 (.seq (.region false [⟨some 30, .ia 2, [.t 26, .t 28], none, []⟩, ⟨some 31, .load 2 true, [.t 30], none, []⟩, ⟨some 8, .alloc [.d (.int .i64 0), .nil 1], [],
  none, []⟩, ⟨none, .store 2, [.t 8, .t 31], none, []⟩] [0, 1, 6, 8, 26, 27, 28]) (.seq (.block 2 (.seq (.region false [⟨some 33, .fa 0, [.t 8], none, []⟩, ⟨some 34, .load 1 false,
  [.t 33], none, []⟩, ⟨some 35, .bin .lss, [.t 34, .k (.d (.int .i64 1))], none, []⟩, ⟨some 36, .mv, [.t 35], none, []⟩, ⟨some 37, .fa 0, [.t 8], some (36, false), []⟩, ⟨some 38,
  .load 1 false, [.t 37], some (36, false), []⟩, ⟨some 39, .bin .gtr, [.t 38, .k (.d (.int .i64 255))], some (36, false), []⟩, ⟨some 40, .pick, [.t 36, .k (.d (.bool true)), .t
  39], none, []⟩, ⟨some 32, .mv, [.t 40], none, []⟩] [0, 1, 6, 8, 26, 27, 28, 32]) (.cond (.t 32) (.seq (.region false [⟨some 4, .mv, [.k (.nil 1)], none, []⟩, ⟨some 5, .mv, [.k
  (.d (.int .i64 9))], none, []⟩] [4, 5]) .ret) (.seq (.region false [⟨some 42, .fa 0, [.t 8], none, []⟩, ⟨some 43, .load 1 false, [.t 42], none, []⟩, ⟨some 44, .iarr 256 1, [.t 6,
  .t 43], none, []⟩, ⟨some 45, .load 1 false, [.t 44], none, []⟩, ⟨some 41, .mv, [.t 45], none, []⟩] [0, 1, 6, 8, 26, 27, 28, 41]) (.cond (.t 41) (.seq (.region false [⟨some 4,
  .mv, [.k (.nil 1)], none, []⟩, ⟨some 5, .mv, [.k (.d (.int .i64 10))], none, []⟩] [4, 5]) .ret) (.seq (.region true [⟨some 47, .fa 1, [.t 8], none, []⟩, ⟨some 48, .load 1 false,
  [.t 47], none, [0]⟩, ⟨some 49, .len, [.t 48], none, [0, 1]⟩, ⟨some 50, .mv, [.t 0], none, []⟩, ⟨some 51, .ia 2, [.t 50, .k (.d (.int .i64 0))], none, [3]⟩, ⟨some 52, .fa 1, [.t
  51], none, [3, 4]⟩, ⟨some 53, .load 1 false, [.t 52], none, [3, 4, 5]⟩, ⟨some 54, .len, [.t 53], none, [3, 4, 5, 6]⟩, ⟨some 55, .bin .neq, [.t 49, .t 54], none, [0, 1, 2, 3, 4,
  5, 6, 7]⟩, ⟨some 46, .mv, [.t 55], none, [0, 1, 2, 3, 4, 5, 6, 7, 8]⟩] [0, 1, 6, 8, 26, 27, 28, 46]) (.cond (.t 46) (.seq (.region false [⟨some 4, .mv, [.k (.nil 1)], none, []⟩,
  ⟨some 5, .mv, [.k (.d (.int .i64 4))], none, []⟩] [4, 5]) .ret) (.seq (.region false [⟨some 57, .fa 1, [.t 8], none, []⟩, ⟨some 58, .load 1 false, [.t 57], none, []⟩, ⟨some 59,
  .len, [.t 58], none, []⟩, ⟨some 60, .bin .gtr, [.t 59, .k (.d (.int .i64 64))], none, []⟩, ⟨some 56, .mv, [.t 60], none, []⟩] [0, 1, 6, 8, 26, 27, 28, 56]) (.cond (.t 56) (.seq
  (.region false [⟨some 4, .mv, [.k (.nil 1)], none, []⟩, ⟨some 5, .mv, [.k (.d (.int .i64 8))], none, []⟩] [4, 5]) .ret) .skip))))))))) (.region false [⟨some 61, .fa 0, [.t 8],
  none, []⟩, ⟨some 62, .load 1 false, [.t 61], none, []⟩, ⟨some 63, .iarr 256 1, [.t 6, .t 62], none, []⟩, ⟨none, .store 1, [.t 63, .k (.d (.bool true))], none, []⟩] [0, 1, 6, 26,
  27, 28])))) (.region false [⟨some 64, .bin .add, [.t 28, .k (.d (.int .i64 1))], none, []⟩, ⟨some 28, .mv, [.t 64], none, []⟩] [0, 1, 6, 26, 27, 28]))))))) (.seq (.region false
  [⟨some 65, .mv, [.t 0], none, []⟩, ⟨some 66, .ia 2, [.t 65, .k (.d (.int .i64 0))], none, []⟩, ⟨some 67, .fa 1, [.t 66], none, []⟩, ⟨some 68, .load 1 false, [.t 67], none, []⟩,
  ⟨some 69, .len, [.t 68], none, []⟩, ⟨some 70, .mks 1 false [.d (.int .u8 0)] 281474976710656, [.t 69, .t 69], none, []⟩, ⟨some 9, .mv, [.t 70], none, []⟩] [0, 1, 9]) (.seq (.seq
  (.region false [⟨some 71, .mv, [.t 0], none, []⟩, ⟨some 72, .len, [.t 71], none, []⟩, ⟨some 73, .mv, [.k (.d (.int .i64 0))], none, []⟩] [0, 1, 9, 71, 72, 73]) (.block 3 (.loop
  [] (.seq (.region false [⟨some 74, .bin .lss, [.t 73, .t 72], none, []⟩] [0, 1, 9, 71, 72, 73, 74]) (.seq (.cond (.t 74) .skip (.exit 3)) (.seq (.block 4 (.seq (.region false
  [⟨some 75, .mv, [.t 73], none, []⟩, ⟨some 76, .ia 2, [.t 71, .t 73], none, []⟩, ⟨some 77, .load 2 true, [.t 76], none, []⟩, ⟨some 11, .alloc [.d (.int .i64 0), .nil 1], [], none,
  []⟩, ⟨some 10, .mv, [.t 75], none, []⟩, ⟨none, .store 2, [.t 11, .t 77], none, []⟩] [0, 1, 9, 10, 11, 71, 72, 73]) (.seq (.region false [⟨some 12, .mv, [.k (.d (.int .u8 1))],
  none, []⟩] [0, 1, 9, 10, 11, 12, 71, 72, 73]) (.seq (.seq (.region false [⟨some 78, .mv, [.t 0], none, []⟩, ⟨some 79, .len, [.t 78], none, []⟩, ⟨some 80, .mv, [.k (.d (.int .i64
  0))], none, []⟩] [0, 1, 9, 10, 11, 12, 71, 72, 73, 78, 79, 80]) (.block 5 (.loop [] (.seq (.region false [⟨some 81, .bin .lss, [.t 80, .t 79], none, []⟩] [0, 1, 9, 10, 11, 12,
  71, 72, 73, 78, 79, 80, 81]) (.seq (.cond (.t 81) .skip (.exit 5)) (.seq (.block 6 (.seq (.region false [⟨some 82, .mv, [.t 80], none, []⟩, ⟨some 83, .ia 2, [.t 78, .t 80], none,
  []⟩, ⟨some 84, .load 2 true, [.t 83], none, []⟩, ⟨some 14, .alloc [.d (.int .i64 0), .nil 1], [], none, []⟩, ⟨some 13, .mv, [.t 82], none, []⟩, ⟨none, .store 2, [.t 14, .t 84],
  none, []⟩] [0, 1, 9, 10, 11, 12, 13, 14, 71, 72, 73, 78, 79, 80]) (.seq (.region false [⟨some 85, .mv, [.t 13], none, []⟩, ⟨some 86, .mv, [.t 10], none, []⟩, ⟨some 87, .bin .neq,
  [.t 85, .t 86], none, []⟩] [0, 1, 9, 10, 11, 12, 14, 71, 72, 73, 78, 79, 80, 87]) (.cond (.t 87) (.region true [⟨some 88, .mv, [.t 12], none, []⟩, ⟨some 89, .mv, [.t 1], none,
  []⟩, ⟨some 90, .cvt .u8, [.t 89], none, [1]⟩, ⟨some 91, .fa 0, [.t 14], none, []⟩, ⟨some 92, .load 1 false, [.t 91], none, [3]⟩, ⟨some 93, .cvt .u8, [.t 92], none, [3, 4]⟩, ⟨some
  94, .bin .xor, [.t 90, .t 93], none, [1, 2, 3, 4, 5]⟩, ⟨some 95, .fa 0, [.t 11], none, []⟩, ⟨some 96, .load 1 false, [.t 95], none, [7]⟩, ⟨some 97, .cvt .u8, [.t 96], none, [7,
  8]⟩, ⟨some 98, .fa 0, [.t 14], none, []⟩, ⟨some 99, .load 1 false, [.t 98], none, [10]⟩, ⟨some 100, .cvt .u8, [.t 99], none, [10, 11]⟩, ⟨some 101, .bin .xor, [.t 97, .t 100],
  none, [7, 8, 9, 10, 11, 12]⟩, ⟨some 102, .call 11 false, [.t 101], none, [7, 8, 9, 10, 11, 12, 13]⟩, ⟨some 103, .call 9 false, [.t 94, .t 102], none, [1, 2, 3, 4, 5, 6, 7, 8, 9,
  10, 11, 12, 13, 14]⟩, ⟨some 104, .call 9 false, [.t 88, .t 103], none, [0, 1, 2, 3, 4, 5, 6, 7, 8, 9, 10, 11, 12, 13, 14, 15]⟩, ⟨some 12, .mv, [.t 104], none, [0, 1, 2, 3, 4, 5,
  6, 7, 8, 9, 10, 11, 12, 13, 14, 15, 16]⟩] [0, 1, 9, 10, 11, 12, 71, 72, 73, 78, 79, 80]) .skip)))) (.region false [⟨some 105, .bin .add, [.t 80, .k (.d (.int .i64 1))], none,
  []⟩, ⟨some 80, .mv, [.t 105], none, []⟩] [0, 1, 9, 10, 11, 12, 71, 72, 73, 78, 79, 80]))))))) (.seq (.region false [⟨some 106, .fa 1, [.t 11], none, []⟩, ⟨some 107, .load 1
  false, [.t 106], none, []⟩, ⟨some 108, .len, [.t 107], none, []⟩, ⟨some 109, .mv, [.k (.d (.int .i64 0))], none, []⟩] [0, 1, 9, 12, 71, 72, 73, 107, 108, 109]) (.block 7 (.loop
  [] (.seq (.region false [⟨some 110, .bin .lss, [.t 109, .t 108], none, []⟩] [0, 1, 9, 12, 71, 72, 73, 107, 108, 109, 110]) (.seq (.cond (.t 110) .skip (.exit 7)) (.seq (.block 8
  (.seq (.region false [⟨some 111, .mv, [.t 109], none, []⟩, ⟨some 112, .ia 1, [.t 107, .t 109], none, []⟩, ⟨some 113, .load 1 false, [.t 112], none, []⟩, ⟨some 15, .mv, [.t 111],
  none, []⟩, ⟨some 16, .mv, [.t 113], none, []⟩] [0, 1, 9, 12, 15, 16, 71, 72, 73, 107, 108, 109]) (.region true [⟨some 114, .mv, [.t 9], none, []⟩, ⟨some 115, .mv, [.t 15], none,
  []⟩, ⟨some 116, .ia 1, [.t 114, .t 115], none, [0, 1]⟩, ⟨some 117, .load 1 false, [.t 116], none, [0, 1, 2]⟩, ⟨some 118, .mv, [.t 12], none, []⟩, ⟨some 119, .mv, [.t 16], none,
  []⟩, ⟨some 120, .call 9 false, [.t 118, .t 119], none, [4, 5]⟩, ⟨some 121, .bin .xor, [.t 117, .t 120], none, [0, 1, 2, 3, 4, 5, 6]⟩, ⟨some 122, .ia 1, [.t 114, .t 115], none,
  [0, 1, 2, 3, 4, 5, 6, 7]⟩, ⟨none, .store 1, [.t 122, .t 121], none, [0, 1, 2, 3, 4, 5, 6, 7, 8]⟩] [0, 1, 9, 12, 71, 72, 73, 107, 108, 109]))) (.region false [⟨some 123, .bin
  .add, [.t 109, .k (.d (.int .i64 1))], none, []⟩, ⟨some 109, .mv, [.t 123], none, []⟩] [0, 1, 9, 12, 71, 72, 73, 107, 108, 109]))))))))))) (.region false [⟨some 124, .bin .add,
  [.t 73, .k (.d (.int .i64 1))], none, []⟩, ⟨some 73, .mv, [.t 124], none, []⟩] [0, 1, 9, 71, 72, 73]))))))) (.seq (.region false [⟨some 125, .mv, [.t 9], none, []⟩, ⟨some 4, .mv,
  [.t 125], none, []⟩, ⟨some 5, .mv, [.k (.d (.int .i64 0))], none, []⟩] [4, 5]) .ret)))))))
def sharingAtRr : List RR := [.t 4, .t 5]
theorem sharingAtC : compFn Try.prog 23 sharingAtH = some (sharingAtRc, sharingAtRr, 126) := by kernel_rfl
theorem sharingAtOK (a0 : List (TApiShare)) (a1 : Int) (res : (List (BitVec 8)) × Int) (h : sharingAt a0 a1 = some res) : CallOK Try.prog 23 [.d ((eL 2 eTApiShare) a0), .d (eI a1)] [] (.tup [.ref 0 res.1.length 0 res.1.length, .d (eI res.2)]) [(0, .row true 1 (res.1.map eU8))] := by
  unfold sharingAt at h
  refine callOK sharingAtC fm rfl ?_
  simp only [initE, initM, nbor, List.map_cons, List.map_nil, Nat.reduceAdd]
  unfold sharingAtRc
  refine rwp_seq fun K1 hK1 => ?_
  refine rwp_region fun K2 hK2 => ?_
  refine st0 128 rfl (ok (mv (.nil 1))) ?_
  refine st0 192 rfl (ok (mv (.d (eI (0 : Int))))) ?_
  refine hK2 _ _ ?_
  simp only [thenK, blockK, keepE, updM, List.filter_cons, List.filter_nil, List.nil_append, List.cons_append, List.map_cons, List.map_nil, envE, Mem.get, Nat.reduceEqDiff, reduceIte, Option.isNone_none, Option.isNone_some, Bool.false_eq_true, List.length_cons, List.length_nil, Nat.reduceAdd, Nat.reduceMul]
  refine hK1 _ _ _ ?_
  refine rwp_seq fun K3 hK3 => ?_
  refine rwp_seq fun K4 hK4 => ?_
  refine rwp_region fun K5 hK5 => ?_
  refine st0 256 rfl (ok (mv (.d ((eL 2 eTApiShare) a0)))) ?_
  refine st0 320 rfl (ok (lenL _ _)) ?_
  refine st0 384 rfl (ok (eqlI _ (0 : Int))) ?_
  refine hK5 _ _ ?_
  simp only [thenK, blockK, keepE, updM, List.filter_cons, List.filter_nil, List.nil_append, List.cons_append, List.map_cons, List.map_nil, envE, Mem.get, Nat.reduceEqDiff, reduceIte, Option.isNone_none, Option.isNone_some, Bool.false_eq_true, List.length_cons, List.length_nil, Nat.reduceAdd, Nat.reduceMul]
  refine hK4 _ _ _ ?_
  rcases Bool.eq_false_or_eq_true (((a0.length : Int) == (0 : Int))) with h6 | h6
  · replace h := ite_t h h6
    refine rwp_t (isT h6) ?_
    refine rwp_seq fun K7 hK7 => ?_
    refine rwp_region fun K8 hK8 => ?_
    refine st0 448 rfl (ok (mv (.nil 1))) ?_
    refine st0 512 rfl (ok (mv (.d (eI (1 : Int))))) ?_
    refine hK8 _ _ ?_
    simp only [thenK, blockK, keepE, updM, List.filter_cons, List.filter_nil, List.nil_append, List.cons_append, List.map_cons, List.map_nil, envE, Mem.get, Nat.reduceEqDiff, reduceIte, Option.isNone_none, Option.isNone_some, Bool.false_eq_true, List.length_cons, List.length_nil, Nat.reduceAdd, Nat.reduceMul]
    refine hK7 _ _ _ ?_
    refine rwp_ret ?_
    obtain rfl := Option.some.inj h
    try simp only [thenK, blockK, reduceIte]
    exact Or.inl (end_ok trivial (rs_t (v := .nil 1) rfl (rs_t (v := .d (eI (1 : Int))) rfl rs_nil)) (en_nilr (en_d (to_d _) en_nil)) ou_nil (by first | exact eok rfl rfl rfl rfl (And.intro (And.intro rfl rfl) trivial) | (refine eok ?_ ?_ ?_ ?_ ?_ <;> first | rfl | exact (And.intro (And.intro rfl rfl) trivial) | simp [retM, Mem.get, PV.renL, PV.ren, Blk.ren, comps, rhoR, rhoM, appN, PV.refsL, PV.refs, keys, nodupB, Blk.refs, allIn, Blk.bor])))
  · replace h := ite_f h h6
    refine rwp_f (isF h6) ?_
    refine rwp_skip ?_
    refine hK3 _ _ _ ?_
    refine rwp_seq fun K9 hK9 => ?_
    refine rwp_join ([], []) 832 (fun env mem => ∃ (v10 : Bool), sharingAtJ1 a0 a1 v10 = some res ∧ env = [(0, .d ((eL 2 eTApiShare) a0)), (1, .d (eI a1)), (25, .d (eB v10))] ∧ mem = []) (fun _ _ hI => ?_) (fun K11 hK11 => ?_)
    · obtain ⟨v10, h, rfl, rfl⟩ := hI
      unfold sharingAtJ1 at h
      rcases Bool.eq_false_or_eq_true (v10) with h12 | h12
      · replace h := ite_t h h12
        refine rwp_t (isT h12) ?_
        refine rwp_seq fun K13 hK13 => ?_
        refine rwp_region fun K14 hK14 => ?_
        refine st0 896 rfl (ok (mv (.nil 1))) ?_
        refine st0 960 rfl (ok (mv (.d (eI (9 : Int))))) ?_
        refine hK14 _ _ ?_
        simp only [thenK, blockK, keepE, updM, List.filter_cons, List.filter_nil, List.nil_append, List.cons_append, List.map_cons, List.map_nil, envE, Mem.get, Nat.reduceEqDiff, reduceIte, Option.isNone_none, Option.isNone_some, Bool.false_eq_true, List.length_cons, List.length_nil, Nat.reduceAdd, Nat.reduceMul]
        refine hK13 _ _ _ ?_
        refine rwp_ret ?_
        obtain rfl := Option.some.inj h
        try simp only [thenK, blockK, reduceIte]
        exact Or.inl (end_ok trivial (rs_t (v := .nil 1) rfl (rs_t (v := .d (eI (9 : Int))) rfl rs_nil)) (en_nilr (en_d (to_d _) en_nil)) ou_nil (by first | exact eok rfl rfl rfl rfl (And.intro (And.intro rfl rfl) trivial) | (refine eok ?_ ?_ ?_ ?_ ?_ <;> first | rfl | exact (And.intro (And.intro rfl rfl) trivial) | simp [retM, Mem.get, PV.renL, PV.ren, Blk.ren, comps, rhoR, rhoM, appN, PV.refsL, PV.refs, keys, nodupB, Blk.refs, allIn, Blk.bor])))
      · replace h := ite_f h h12
        refine rwp_f (isF h12) ?_
        refine rwp_skip ?_
        refine hK9 _ _ _ ?_
        refine rwp_seq fun K15 hK15 => ?_
        refine rwp_region fun K16 hK16 => ?_
        refine st1 896 rfl (mem' := [(832, .var .mine ((List.replicate 256 false).map fun x => .d (eB x)))]) (ok (alcA (e := eB) (xs := (List.replicate 256 false)) rfl)) rfl ?_
        refine hK16 _ _ ?_
        simp only [thenK, blockK, keepE, updM, List.filter_cons, List.filter_nil, List.nil_append, List.cons_append, List.map_cons, List.map_nil, envE, Mem.get, Nat.reduceEqDiff, reduceIte, Option.isNone_none, Option.isNone_some, Bool.false_eq_true, List.length_cons, List.length_nil, Nat.reduceAdd, Nat.reduceMul]
        refine hK15 _ _ _ ?_
        refine rwp_join ([], []) 3968 (fun env mem => sharingAtJ2 a0 a1 = some res ∧ env = [(0, .d ((eL 2 eTApiShare) a0)), (1, .d (eI a1))] ∧ mem = []) (fun _ _ hI => ?_) (fun K17 hK17 => ?_)
        · obtain ⟨h, rfl, rfl⟩ := hI
          unfold sharingAtJ2 at h
          refine rwp_seq fun K18 hK18 => ?_
          refine rwp_region fun K19 hK19 => ?_
          refine st0 4032 rfl (ok (mv (.d ((eL 2 eTApiShare) a0)))) ?_
          obtain ⟨h20, h⟩ := asq_inv h
          refine st0 4096 rfl (ok (iaL (e := eTApiShare) (xs := a0) (TApiShare.mk (0 : Int) ([] : List (BitVec 8))) h20)) ?_
          refine st0 4160 rfl (ok fa_iptr) ?_
          refine st0 4224 rfl (ok (ld_i (v := (eL 1 eU8) ((a0.getD (0 : Int).toNat (TApiShare.mk (0 : Int) ([] : List (BitVec 8)))).Data)) rfl rfl)) ?_
          refine st0 4288 rfl (ok (lenL _ _)) ?_
          obtain ⟨h21, h⟩ := asq_inv h
          refine st1 4352 rfl (mem' := [(4288, .row true 1 ((List.replicate ((((a0.getD (0 : Int).toNat (TApiShare.mk (0 : Int) ([] : List (BitVec 8)))).Data)).length : Int).toNat 0#8).map eU8))]) (ok (mks1 (e := eU8) 0#8 rfl rfl h21)) rfl ?_
          refine st0 4416 rfl (ok (mv (.ref 4288 (((List.replicate ((((a0.getD (0 : Int).toNat (TApiShare.mk (0 : Int) ([] : List (BitVec 8)))).Data)).length : Int).toNat 0#8)).length) 0 (((List.replicate ((((a0.getD (0 : Int).toNat (TApiShare.mk (0 : Int) ([] : List (BitVec 8)))).Data)).length : Int).toNat 0#8)).length)))) ?_
          refine hK19 _ _ ?_
          simp only [thenK, blockK, keepE, updM, List.filter_cons, List.filter_nil, List.nil_append, List.cons_append, List.map_cons, List.map_nil, envE, Mem.get, Nat.reduceEqDiff, reduceIte, Option.isNone_none, Option.isNone_some, Bool.false_eq_true, List.length_cons, List.length_nil, Nat.reduceAdd, Nat.reduceMul]
          refine hK18 _ _ _ ?_
          refine rwp_join ([], []) 9600 (fun env mem => ∃ (v22 : List (BitVec 8)), sharingAtJ3 v22 = some res ∧ env = [(9, .ref 4288 v22.length 0 v22.length)] ∧ mem = [(4288, .row true 1 (v22.map eU8))]) (fun _ _ hI => ?_) (fun K23 hK23 => ?_)
          · obtain ⟨v22, h, rfl, rfl⟩ := hI
            unfold sharingAtJ3 at h
            refine rwp_seq fun K24 hK24 => ?_
            refine rwp_region fun K25 hK25 => ?_
            refine st0 9664 rfl (ok (mv (.ref 4288 v22.length 0 v22.length))) ?_
            refine st0 9728 rfl (ok (mv (.ref 4288 v22.length 0 v22.length))) ?_
            refine st0 9792 rfl (ok (mv (.d (eI (0 : Int))))) ?_
            refine hK25 _ _ ?_
            simp only [thenK, blockK, keepE, updM, List.filter_cons, List.filter_nil, List.nil_append, List.cons_append, List.map_cons, List.map_nil, envE, Mem.get, Nat.reduceEqDiff, reduceIte, Option.isNone_none, Option.isNone_some, Bool.false_eq_true, List.length_cons, List.length_nil, Nat.reduceAdd, Nat.reduceMul]
            refine hK24 _ _ _ ?_
            refine rwp_ret ?_
            obtain rfl := Option.some.inj h
            try simp only [thenK, blockK, reduceIte]
            exact Or.inl (end_ok trivial (rs_t (v := .ref 4288 v22.length 0 v22.length) rfl (rs_t (v := .d (eI (0 : Int))) rfl rs_nil)) (en_ref (en_d (to_d _) en_nil)) ou_nil (by first | exact eok rfl rfl rfl rfl (And.intro (And.intro rfl rfl) trivial) | (refine eok ?_ ?_ ?_ ?_ ?_ <;> first | rfl | exact (And.intro (And.intro rfl rfl) trivial) | simp [retM, Mem.get, PV.renL, PV.ren, Blk.ren, comps, rhoR, rhoM, appN, PV.refsL, PV.refs, keys, nodupB, Blk.refs, allIn, Blk.bor])))
          · refine rwp_seq fun K26 hK26 => ?_
            refine rwp_region fun K27 hK27 => ?_
            refine st0 4480 rfl (ok (mv (.d ((eL 2 eTApiShare) a0)))) ?_
            refine st0 4544 rfl (ok (lenL _ _)) ?_
            refine st0 4608 rfl (ok (mv (.d (eI (0 : Int))))) ?_
            refine hK27 _ _ ?_
            simp only [thenK, blockK, keepE, updM, List.filter_cons, List.filter_nil, List.nil_append, List.cons_append, List.map_cons, List.map_nil, envE, Mem.get, Nat.reduceEqDiff, reduceIte, Option.isNone_none, Option.isNone_some, Bool.false_eq_true, List.length_cons, List.length_nil, Nat.reduceAdd, Nat.reduceMul]
            refine hK26 _ _ _ ?_
            refine rwp_block fun K28 hK28 => ?_
            refine rwp_loop ([], []) 9472 (fun k env mem => ∃ (v29 : List (BitVec 8)) (v30 : Int), sharingAtL4 a0 a1 k v29 v30 = some res ∧ env = [(0, .d ((eL 2 eTApiShare) a0)), (1, .d (eI a1)), (9, .ref 4288 v29.length 0 v29.length), (71, .d ((eL 2 eTApiShare) a0)), (72, .d (eI (a0.length : Int))), (73, .d (eI v30))] ∧ mem = [(4288, .row true 1 (v29.map eU8))]) FUEL ⟨_, _, Settled.refl, _, _, ⟨_, _, h, rfl, rfl⟩, ⟨rfl, ⟨⟨rfl, rfl⟩, ⟨⟨rfl, rfl⟩, ⟨⟨rfl, rfl⟩, ⟨⟨rfl, rfl⟩, ⟨⟨rfl, rfl⟩, ⟨⟨rfl, rfl⟩, trivial⟩⟩⟩⟩⟩⟩, ⟨⟨rfl, rfl⟩, trivial⟩⟩, rfl⟩ (fun k4 env1 mem1 hI K31 hK31 => ?_)
            obtain ⟨v29, v30, h, rfl, rfl⟩ := hI
            cases k4 with
            | zero => simp [sharingAtL4] at h
            | succ k4 =>
              rw [sharingAtL4] at h
              refine rwp_seq fun K32 hK32 => ?_
              refine rwp_region fun K33 hK33 => ?_
              refine st0 9536 rfl (ok (lssI _ _)) ?_
              refine hK33 _ _ ?_
              simp only [thenK, blockK, keepE, updM, List.filter_cons, List.filter_nil, List.nil_append, List.cons_append, List.map_cons, List.map_nil, envE, Mem.get, Nat.reduceEqDiff, reduceIte, Option.isNone_none, Option.isNone_some, Bool.false_eq_true, List.length_cons, List.length_nil, Nat.reduceAdd, Nat.reduceMul]
              refine hK32 _ _ _ ?_
              refine rwp_seq fun K34 hK34 => ?_
              rcases Bool.eq_false_or_eq_true ((decide (v30 < (a0.length : Int)))) with h35 | h35
              · replace h := ite_t h h35
                refine rwp_t (isT h35) ?_
                refine rwp_skip ?_
                refine hK34 _ _ _ ?_
                refine rwp_join ([], []) 14080 (fun env mem => ∃ (v36 : List (BitVec 8)), sharingAtJ5 (sharingAtL4 a0 a1 k4) v30 v36 = some res ∧ env = [(0, .d ((eL 2 eTApiShare) a0)), (1, .d (eI a1)), (9, .ref 4288 v36.length 0 v36.length), (71, .d ((eL 2 eTApiShare) a0)), (72, .d (eI (a0.length : Int))), (73, .d (eI v30))] ∧ mem = [(4288, .row true 1 (v36.map eU8))]) (fun _ _ hI => ?_) (fun K37 hK37 => ?_)
                · obtain ⟨v36, h, rfl, rfl⟩ := hI
                  unfold sharingAtJ5 at h
                  refine rwp_region fun K38 hK38 => ?_
                  refine st0 14144 rfl (ok (addI _ (1 : Int))) ?_
                  refine st0 14208 rfl (ok (mv (.d (eI (w64 (v30 + (1 : Int))))))) ?_
                  refine hK38 _ _ ?_
                  simp only [thenK, blockK, keepE, updM, List.filter_cons, List.filter_nil, List.nil_append, List.cons_append, List.map_cons, List.map_nil, envE, Mem.get, Nat.reduceEqDiff, reduceIte, Option.isNone_none, Option.isNone_some, Bool.false_eq_true, List.length_cons, List.length_nil, Nat.reduceAdd, Nat.reduceMul]
                  exact hK31.out _ _ _ k4 (Nat.lt_succ_self k4) ⟨_, _, Settled.refl, _, _, ⟨_, _, h, rfl, rfl⟩, ⟨rfl, ⟨⟨rfl, rfl⟩, ⟨⟨rfl, rfl⟩, ⟨⟨rfl, rfl⟩, ⟨⟨rfl, rfl⟩, ⟨⟨rfl, rfl⟩, ⟨⟨rfl, rfl⟩, trivial⟩⟩⟩⟩⟩⟩, ⟨⟨rfl, rfl⟩, trivial⟩⟩, rfl⟩
                · refine rwp_block fun K39 hK39 => ?_
                  refine rwp_seq fun K40 hK40 => ?_
                  refine rwp_region fun K41 hK41 => ?_
                  refine st0 9600 rfl (ok (mv (.d (eI v30)))) ?_
                  obtain ⟨h42, h⟩ := asq_inv h
                  refine st0 9664 rfl (ok (iaL (e := eTApiShare) (xs := a0) (TApiShare.mk (0 : Int) ([] : List (BitVec 8))) h42)) ?_
                  refine st0 9728 rfl (ok (ld_i (v := eTApiShare (a0.getD v30.toNat (TApiShare.mk (0 : Int) ([] : List (BitVec 8))))) rfl rfl)) ?_
                  refine st1 9792 rfl (mem' := [(9728, .var .mine [.d (eI (0 : Int)), .nil 1]), (4288, .row true 1 (v29.map eU8))]) (ok (alc (zs := [.d (eI (0 : Int)), .nil 1]))) rfl ?_
                  refine st0 9856 rfl (ok (mv (.d (eI v30)))) ?_
                  refine stn 9920 rfl (mem' := [(9728, .var .mine [.d (eI ((a0.getD v30.toNat (TApiShare.mk (0 : Int) ([] : List (BitVec 8)))).X)), .d ((eL 1 eU8) ((a0.getD v30.toNat (TApiShare.mk (0 : Int) ([] : List (BitVec 8)))).Data))]), (4288, .row true 1 (v29.map eU8))]) (ok (sto_v (ps' := [.d (eI ((a0.getD v30.toNat (TApiShare.mk (0 : Int) ([] : List (BitVec 8)))).X)), .d ((eL 1 eU8) ((a0.getD v30.toNat (TApiShare.mk (0 : Int) ([] : List (BitVec 8)))).Data))]) rfl rfl rfl rfl)) rfl ?_
                  refine hK41 _ _ ?_
                  simp only [thenK, blockK, keepE, updM, List.filter_cons, List.filter_nil, List.nil_append, List.cons_append, List.map_cons, List.map_nil, envE, Mem.get, Nat.reduceEqDiff, reduceIte, Option.isNone_none, Option.isNone_some, Bool.false_eq_true, List.length_cons, List.length_nil, Nat.reduceAdd, Nat.reduceMul]
                  refine hK40 _ _ _ ?_
                  refine rwp_seq fun K43 hK43 => ?_
                  refine rwp_region fun K44 hK44 => ?_
                  refine st0 9984 rfl (ok (mv (.d (eU8 (1#8))))) ?_
                  refine hK44 _ _ ?_
                  simp only [thenK, blockK, keepE, updM, List.filter_cons, List.filter_nil, List.nil_append, List.cons_append, List.map_cons, List.map_nil, envE, Mem.get, Nat.reduceEqDiff, reduceIte, Option.isNone_none, Option.isNone_some, Bool.false_eq_true, List.length_cons, List.length_nil, Nat.reduceAdd, Nat.reduceMul]
                  refine hK43 _ _ _ ?_
                  refine rwp_join ([], []) 12416 (fun env mem => ∃ (v45 : BitVec 8), sharingAtJ6 (sharingAtL4 a0 a1 k4) a0 v29 v30 v45 = some res ∧ env = [(0, .d ((eL 2 eTApiShare) a0)), (1, .d (eI a1)), (9, .ref 4288 v29.length 0 v29.length), (11, .ptr 9728 0), (12, .d (eU8 v45)), (71, .d ((eL 2 eTApiShare) a0)), (72, .d (eI (a0.length : Int))), (73, .d (eI v30))] ∧ mem = [(4288, .row true 1 (v29.map eU8)), (9728, .var .mine [.d (eI ((a0.getD v30.toNat (TApiShare.mk (0 : Int) ([] : List (BitVec 8)))).X)), .d ((eL 1 eU8) ((a0.getD v30.toNat (TApiShare.mk (0 : Int) ([] : List (BitVec 8)))).Data))])]) (fun _ _ hI => ?_) (fun K46 hK46 => ?_)
                  · obtain ⟨v45, h, rfl, rfl⟩ := hI
                    unfold sharingAtJ6 at h
                    refine rwp_seq fun K47 hK47 => ?_
                    refine rwp_region fun K48 hK48 => ?_
                    refine st0 12480 rfl (ok (fa_k 1 rfl)) ?_
                    refine st0 12544 rfl (ok (ld_v (v := .d ((eL 1 eU8) ((a0.getD v30.toNat (TApiShare.mk (0 : Int) ([] : List (BitVec 8)))).Data))) rfl rfl rfl)) ?_
                    refine st0 12608 rfl (ok (lenL _ _)) ?_
                    refine st0 12672 rfl (ok (mv (.d (eI (0 : Int))))) ?_
                    refine hK48 _ _ ?_
                    simp only [thenK, blockK, keepE, updM, List.filter_cons, List.filter_nil, List.nil_append, List.cons_append, List.map_cons, List.map_nil, envE, Mem.get, Nat.reduceEqDiff, reduceIte, Option.isNone_none, Option.isNone_some, Bool.false_eq_true, List.length_cons, List.length_nil, Nat.reduceAdd, Nat.reduceMul]
                    refine hK47 _ _ _ ?_
                    refine rwp_block fun K49 hK49 => ?_
                    refine rwp_loop ([], []) 13952 (fun k env mem => ∃ (v50 : List (BitVec 8)) (v51 : Int), sharingAtL7 (sharingAtL4 a0 a1 k4) a0 v30 v45 k v50 v51 = some res ∧ env = [(0, .d ((eL 2 eTApiShare) a0)), (1, .d (eI a1)), (9, .ref 4288 v50.length 0 v50.length), (12, .d (eU8 v45)), (71, .d ((eL 2 eTApiShare) a0)), (72, .d (eI (a0.length : Int))), (73, .d (eI v30)), (107, .d ((eL 1 eU8) ((a0.getD v30.toNat (TApiShare.mk (0 : Int) ([] : List (BitVec 8)))).Data))), (108, .d (eI ((((a0.getD v30.toNat (TApiShare.mk (0 : Int) ([] : List (BitVec 8)))).Data)).length : Int))), (109, .d (eI v51))] ∧ mem = [(4288, .row true 1 (v50.map eU8))]) FUEL ⟨_, _, Settled.refl, _, _, ⟨_, _, h, rfl, rfl⟩, ⟨rfl, ⟨⟨rfl, rfl⟩, ⟨⟨rfl, rfl⟩, ⟨⟨rfl, rfl⟩, ⟨⟨rfl, rfl⟩, ⟨⟨rfl, rfl⟩, ⟨⟨rfl, rfl⟩, ⟨⟨rfl, rfl⟩, ⟨⟨rfl, rfl⟩, ⟨⟨rfl, rfl⟩, ⟨⟨rfl, rfl⟩, trivial⟩⟩⟩⟩⟩⟩⟩⟩⟩⟩, ⟨⟨rfl, rfl⟩, trivial⟩⟩, rfl⟩ (fun k7 env1 mem1 hI K52 hK52 => ?_)
                    obtain ⟨v50, v51, h, rfl, rfl⟩ := hI
                    cases k7 with
                    | zero => simp [sharingAtL7] at h
                    | succ k7 =>
                      rw [sharingAtL7] at h
                      refine rwp_seq fun K53 hK53 => ?_
                      refine rwp_region fun K54 hK54 => ?_
                      refine st0 14016 rfl (ok (lssI _ _)) ?_
                      refine hK54 _ _ ?_
                      simp only [thenK, blockK, keepE, updM, List.filter_cons, List.filter_nil, List.nil_append, List.cons_append, List.map_cons, List.map_nil, envE, Mem.get, Nat.reduceEqDiff, reduceIte, Option.isNone_none, Option.isNone_some, Bool.false_eq_true, List.length_cons, List.length_nil, Nat.reduceAdd, Nat.reduceMul]
                      refine hK53 _ _ _ ?_
                      refine rwp_seq fun K55 hK55 => ?_
                      rcases Bool.eq_false_or_eq_true ((decide (v51 < ((((a0.getD v30.toNat (TApiShare.mk (0 : Int) ([] : List (BitVec 8)))).Data)).length : Int)))) with h56 | h56
                      · replace h := ite_t h h56
                        refine rwp_t (isT h56) ?_
                        refine rwp_skip ?_
                        refine hK55 _ _ _ ?_
                        refine rwp_seq fun K57 hK57 => ?_
                        refine rwp_block fun K58 hK58 => ?_
                        refine rwp_seq fun K59 hK59 => ?_
                        refine rwp_region fun K60 hK60 => ?_
                        refine st0 14080 rfl (ok (mv (.d (eI v51)))) ?_
                        obtain ⟨h61, h⟩ := asq_inv h
                        refine st0 14144 rfl (ok (iaL (e := eU8) (xs := ((a0.getD v30.toNat (TApiShare.mk (0 : Int) ([] : List (BitVec 8)))).Data)) 0#8 h61)) ?_
                        refine st0 14208 rfl (ok (ld_i (v := eU8 (((a0.getD v30.toNat (TApiShare.mk (0 : Int) ([] : List (BitVec 8)))).Data).getD v51.toNat 0#8)) rfl rfl)) ?_
                        refine st0 14272 rfl (ok (mv (.d (eI v51)))) ?_
                        refine st0 14336 rfl (ok (mv (.d (eU8 (((a0.getD v30.toNat (TApiShare.mk (0 : Int) ([] : List (BitVec 8)))).Data).getD v51.toNat 0#8))))) ?_
                        refine hK60 _ _ ?_
                        simp only [thenK, blockK, keepE, updM, List.filter_cons, List.filter_nil, List.nil_append, List.cons_append, List.map_cons, List.map_nil, envE, Mem.get, Nat.reduceEqDiff, reduceIte, Option.isNone_none, Option.isNone_some, Bool.false_eq_true, List.length_cons, List.length_nil, Nat.reduceAdd, Nat.reduceMul]
                        refine hK59 _ _ _ ?_
                        refine rwp_draw fun K62 hK62 => ?_
                        refine dr0 14400 rfl (ok (mv (.ref 4288 v50.length 0 v50.length))) (by kernel_rfl) ?_
                        refine dr0 14464 rfl (ok (mv (.d (eI v51)))) (by kernel_rfl) ?_
                        obtain ⟨h63, h⟩ := asq_inv h
                        refine dr0 14528 rfl (ok (iaR (xs := v50) (e := eU8) rfl rfl h63)) (by kernel_rfl) ?_
                        refine dr0 14592 rfl (ok (ld_r (e := eU8) (xs := v50) 0#8 rfl rfl (by have := h63; simp at this ⊢; omega) rfl)) (by kernel_rfl) ?_
                        refine dr0 14656 rfl (ok (mv (.d (eU8 v45)))) (by kernel_rfl) ?_
                        refine dr0 14720 rfl (ok (mv (.d (eU8 (((a0.getD v30.toNat (TApiShare.mk (0 : Int) ([] : List (BitVec 8)))).Data).getD v51.toNat 0#8))))) (by kernel_rfl) ?_
                        obtain ⟨y64, h65, h⟩ := bind_inv h
                        refine dr0 14784 rfl (call_ok (v := .d (eU8 y64)) (u := []) (ar_d (eU8 v45) (ar_d (eU8 (((a0.getD v30.toNat (TApiShare.mk (0 : Int) ([] : List (BitVec 8)))).Data).getD v51.toNat 0#8)) ar_nil)) rfl (sharingMulOK v45 (((a0.getD v30.toNat (TApiShare.mk (0 : Int) ([] : List (BitVec 8)))).Data).getD v51.toNat 0#8) y64 h65) rfl) (by kernel_rfl) ?_
                        refine dr0 14848 rfl (ok (xor8 _ _)) (by kernel_rfl) ?_
                        obtain ⟨h66, h⟩ := asq_inv h
                        refine dr0 14912 rfl (ok (iaR (xs := v50) (e := eU8) rfl rfl h66)) (by kernel_rfl) ?_
                        refine drn 14976 rfl (mem' := [(4288, .row true 1 ((v50.set (0 + v51.toNat) ((v50.getD (0 + v51.toNat) 0#8) ^^^ y64)).map eU8))]) (ok (sto_r (e := eU8) (xs := v50) (y := ((v50.getD (0 + v51.toNat) 0#8) ^^^ y64)) rfl rfl rfl)) rfl (by kernel_rfl) ?_
                        refine hK62 _ _ ?_
                        simp only [thenK, blockK, keepE, updM, List.filter_cons, List.filter_nil, List.nil_append, List.cons_append, List.map_cons, List.map_nil, envE, Mem.get, Nat.reduceEqDiff, reduceIte, Option.isNone_none, Option.isNone_some, Bool.false_eq_true, List.length_cons, List.length_nil, Nat.reduceAdd, Nat.reduceMul]
                        refine hK58 _ _ _ ?_
                        refine hK57 _ _ _ ?_
                        refine rwp_region fun K67 hK67 => ?_
                        refine st0 15040 rfl (ok (addI _ (1 : Int))) ?_
                        refine st0 15104 rfl (ok (mv (.d (eI (w64 (v51 + (1 : Int))))))) ?_
                        refine hK67 _ _ ?_
                        simp only [thenK, blockK, keepE, updM, List.filter_cons, List.filter_nil, List.nil_append, List.cons_append, List.map_cons, List.map_nil, envE, Mem.get, Nat.reduceEqDiff, reduceIte, Option.isNone_none, Option.isNone_some, Bool.false_eq_true, List.length_cons, List.length_nil, Nat.reduceAdd, Nat.reduceMul]
                        exact hK52.out _ _ _ k7 (Nat.lt_succ_self k7) ⟨_, _, Settled.refl, _, _, ⟨_, _, h, rfl, rfl⟩, (by refine ⟨rfl, ⟨⟨?_, rfl⟩, ⟨⟨?_, rfl⟩, ⟨⟨?_, rfl⟩, ⟨⟨?_, rfl⟩, ⟨⟨?_, rfl⟩, ⟨⟨?_, rfl⟩, ⟨⟨?_, rfl⟩, ⟨⟨?_, rfl⟩, ⟨⟨?_, rfl⟩, ⟨⟨?_, rfl⟩, trivial⟩⟩⟩⟩⟩⟩⟩⟩⟩⟩, ⟨⟨?_, rfl⟩, trivial⟩⟩ <;> first | rfl | (exact refEq rfl (by simp) rfl (by simp)) | simp [envE, Mem.get, liftE, liftV, rhoOf, rhoE, rhoM, appN, PV.refs, PV.refsL, Blk.refs, PV.ren, PV.renL, Blk.ren]), rfl⟩
                      · replace h := ite_f h h56
                        refine rwp_f (isF h56) ?_
                        refine rwp_exit ?_
                        refine hK49 _ _ _ ?_
                        refine hK39 _ _ _ ?_
                        exact hK37 _ _ _ ⟨_, _, Settled.refl, _, _, ⟨_, h, rfl, rfl⟩, ⟨rfl, ⟨⟨rfl, rfl⟩, ⟨⟨rfl, rfl⟩, ⟨⟨rfl, rfl⟩, ⟨⟨rfl, rfl⟩, ⟨⟨rfl, rfl⟩, ⟨⟨rfl, rfl⟩, trivial⟩⟩⟩⟩⟩⟩, ⟨⟨rfl, rfl⟩, trivial⟩⟩, rfl⟩
                  · refine rwp_seq fun K68 hK68 => ?_
                    refine rwp_region fun K69 hK69 => ?_
                    refine st0 10048 rfl (ok (mv (.d ((eL 2 eTApiShare) a0)))) ?_
                    refine st0 10112 rfl (ok (lenL _ _)) ?_
                    refine st0 10176 rfl (ok (mv (.d (eI (0 : Int))))) ?_
                    refine hK69 _ _ ?_
                    simp only [thenK, blockK, keepE, updM, List.filter_cons, List.filter_nil, List.nil_append, List.cons_append, List.map_cons, List.map_nil, envE, Mem.get, Nat.reduceEqDiff, reduceIte, Option.isNone_none, Option.isNone_some, Bool.false_eq_true, List.length_cons, List.length_nil, Nat.reduceAdd, Nat.reduceMul]
                    refine hK68 _ _ _ ?_
                    refine rwp_block fun K70 hK70 => ?_
                    refine rwp_loop ([], []) 12288 (fun k env mem => ∃ (v71 : BitVec 8) (v72 : Int), sharingAtL8 (sharingAtL4 a0 a1 k4) a0 a1 v29 v30 k v71 v72 = some res ∧ env = [(0, .d ((eL 2 eTApiShare) a0)), (1, .d (eI a1)), (9, .ref 4288 v29.length 0 v29.length), (10, .d (eI v30)), (11, .ptr 9728 0), (12, .d (eU8 v71)), (71, .d ((eL 2 eTApiShare) a0)), (72, .d (eI (a0.length : Int))), (73, .d (eI v30)), (78, .d ((eL 2 eTApiShare) a0)), (79, .d (eI (a0.length : Int))), (80, .d (eI v72))] ∧ mem = [(4288, .row true 1 (v29.map eU8)), (9728, .var .mine [.d (eI ((a0.getD v30.toNat (TApiShare.mk (0 : Int) ([] : List (BitVec 8)))).X)), .d ((eL 1 eU8) ((a0.getD v30.toNat (TApiShare.mk (0 : Int) ([] : List (BitVec 8)))).Data))])]) FUEL ⟨_, _, Settled.refl, _, _, ⟨_, _, h, rfl, rfl⟩, ⟨rfl, ⟨⟨rfl, rfl⟩, ⟨⟨rfl, rfl⟩, ⟨⟨rfl, rfl⟩, ⟨⟨rfl, rfl⟩, ⟨⟨rfl, rfl⟩, ⟨⟨rfl, rfl⟩, ⟨⟨rfl, rfl⟩, ⟨⟨rfl, rfl⟩, ⟨⟨rfl, rfl⟩, ⟨⟨rfl, rfl⟩, ⟨⟨rfl, rfl⟩, ⟨⟨rfl, rfl⟩, trivial⟩⟩⟩⟩⟩⟩⟩⟩⟩⟩⟩⟩, ⟨⟨rfl, rfl⟩, ⟨⟨rfl, rfl⟩, trivial⟩⟩⟩, rfl⟩ (fun k8 env1 mem1 hI K73 hK73 => ?_)
                    obtain ⟨v71, v72, h, rfl, rfl⟩ := hI
                    cases k8 with
                    | zero => simp [sharingAtL8] at h
                    | succ k8 =>
                      rw [sharingAtL8] at h
                      refine rwp_seq fun K74 hK74 => ?_
                      refine rwp_region fun K75 hK75 => ?_
                      refine st0 12352 rfl (ok (lssI _ _)) ?_
                      refine hK75 _ _ ?_
                      simp only [thenK, blockK, keepE, updM, List.filter_cons, List.filter_nil, List.nil_append, List.cons_append, List.map_cons, List.map_nil, envE, Mem.get, Nat.reduceEqDiff, reduceIte, Option.isNone_none, Option.isNone_some, Bool.false_eq_true, List.length_cons, List.length_nil, Nat.reduceAdd, Nat.reduceMul]
                      refine hK74 _ _ _ ?_
                      refine rwp_seq fun K76 hK76 => ?_
                      rcases Bool.eq_false_or_eq_true ((decide (v72 < (a0.length : Int)))) with h77 | h77
                      · replace h := ite_t h h77
                        refine rwp_t (isT h77) ?_
                        refine rwp_skip ?_
                        refine hK76 _ _ _ ?_
                        refine rwp_join ([], []) 14144 (fun env mem => ∃ (v78 : BitVec 8), sharingAtJ9 (sharingAtL8 (sharingAtL4 a0 a1 k4) a0 a1 v29 v30 k8) v72 v78 = some res ∧ env = [(0, .d ((eL 2 eTApiShare) a0)), (1, .d (eI a1)), (9, .ref 4288 v29.length 0 v29.length), (10, .d (eI v30)), (11, .ptr 9728 0), (12, .d (eU8 v78)), (71, .d ((eL 2 eTApiShare) a0)), (72, .d (eI (a0.length : Int))), (73, .d (eI v30)), (78, .d ((eL 2 eTApiShare) a0)), (79, .d (eI (a0.length : Int))), (80, .d (eI v72))] ∧ mem = [(4288, .row true 1 (v29.map eU8)), (9728, .var .mine [.d (eI ((a0.getD v30.toNat (TApiShare.mk (0 : Int) ([] : List (BitVec 8)))).X)), .d ((eL 1 eU8) ((a0.getD v30.toNat (TApiShare.mk (0 : Int) ([] : List (BitVec 8)))).Data))])]) (fun _ _ hI => ?_) (fun K79 hK79 => ?_)
                        · obtain ⟨v78, h, rfl, rfl⟩ := hI
                          unfold sharingAtJ9 at h
                          refine rwp_region fun K80 hK80 => ?_
                          refine st0 14208 rfl (ok (addI _ (1 : Int))) ?_
                          refine st0 14272 rfl (ok (mv (.d (eI (w64 (v72 + (1 : Int))))))) ?_
                          refine hK80 _ _ ?_
                          simp only [thenK, blockK, keepE, updM, List.filter_cons, List.filter_nil, List.nil_append, List.cons_append, List.map_cons, List.map_nil, envE, Mem.get, Nat.reduceEqDiff, reduceIte, Option.isNone_none, Option.isNone_some, Bool.false_eq_true, List.length_cons, List.length_nil, Nat.reduceAdd, Nat.reduceMul]
                          exact hK73.out _ _ _ k8 (Nat.lt_succ_self k8) ⟨_, _, Settled.refl, _, _, ⟨_, _, h, rfl, rfl⟩, ⟨rfl, ⟨⟨rfl, rfl⟩, ⟨⟨rfl, rfl⟩, ⟨⟨rfl, rfl⟩, ⟨⟨rfl, rfl⟩, ⟨⟨rfl, rfl⟩, ⟨⟨rfl, rfl⟩, ⟨⟨rfl, rfl⟩, ⟨⟨rfl, rfl⟩, ⟨⟨rfl, rfl⟩, ⟨⟨rfl, rfl⟩, ⟨⟨rfl, rfl⟩, ⟨⟨rfl, rfl⟩, trivial⟩⟩⟩⟩⟩⟩⟩⟩⟩⟩⟩⟩, ⟨⟨rfl, rfl⟩, ⟨⟨rfl, rfl⟩, trivial⟩⟩⟩, rfl⟩
                        · refine rwp_block fun K81 hK81 => ?_
                          refine rwp_seq fun K82 hK82 => ?_
                          refine rwp_region fun K83 hK83 => ?_
                          refine st0 12416 rfl (ok (mv (.d (eI v72)))) ?_
                          obtain ⟨h84, h⟩ := asq_inv h
                          refine st0 12480 rfl (ok (iaL (e := eTApiShare) (xs := a0) (TApiShare.mk (0 : Int) ([] : List (BitVec 8))) h84)) ?_
                          refine st0 12544 rfl (ok (ld_i (v := eTApiShare (a0.getD v72.toNat (TApiShare.mk (0 : Int) ([] : List (BitVec 8))))) rfl rfl)) ?_
                          refine st1 12608 rfl (mem' := [(12544, .var .mine [.d (eI (0 : Int)), .nil 1]), (4288, .row true 1 (v29.map eU8)), (9728, .var .mine [.d (eI ((a0.getD v30.toNat (TApiShare.mk (0 : Int) ([] : List (BitVec 8)))).X)), .d ((eL 1 eU8) ((a0.getD v30.toNat (TApiShare.mk (0 : Int) ([] : List (BitVec 8)))).Data))])]) (ok (alc (zs := [.d (eI (0 : Int)), .nil 1]))) rfl ?_
                          refine st0 12672 rfl (ok (mv (.d (eI v72)))) ?_
                          refine stn 12736 rfl (mem' := [(12544, .var .mine [.d (eI ((a0.getD v72.toNat (TApiShare.mk (0 : Int) ([] : List (BitVec 8)))).X)), .d ((eL 1 eU8) ((a0.getD v72.toNat (TApiShare.mk (0 : Int) ([] : List (BitVec 8)))).Data))]), (4288, .row true 1 (v29.map eU8)), (9728, .var .mine [.d (eI ((a0.getD v30.toNat (TApiShare.mk (0 : Int) ([] : List (BitVec 8)))).X)), .d ((eL 1 eU8) ((a0.getD v30.toNat (TApiShare.mk (0 : Int) ([] : List (BitVec 8)))).Data))])]) (ok (sto_v (ps' := [.d (eI ((a0.getD v72.toNat (TApiShare.mk (0 : Int) ([] : List (BitVec 8)))).X)), .d ((eL 1 eU8) ((a0.getD v72.toNat (TApiShare.mk (0 : Int) ([] : List (BitVec 8)))).Data))]) rfl rfl rfl rfl)) rfl ?_
                          refine hK83 _ _ ?_
                          simp only [thenK, blockK, keepE, updM, List.filter_cons, List.filter_nil, List.nil_append, List.cons_append, List.map_cons, List.map_nil, envE, Mem.get, Nat.reduceEqDiff, reduceIte, Option.isNone_none, Option.isNone_some, Bool.false_eq_true, List.length_cons, List.length_nil, Nat.reduceAdd, Nat.reduceMul]
                          refine hK82 _ _ _ ?_
                          refine rwp_seq fun K85 hK85 => ?_
                          refine rwp_region fun K86 hK86 => ?_
                          refine st0 12800 rfl (ok (mv (.d (eI v72)))) ?_
                          refine st0 12864 rfl (ok (mv (.d (eI v30)))) ?_
                          refine st0 12928 rfl (ok (neqI _ _)) ?_
                          refine hK86 _ _ ?_
                          simp only [thenK, blockK, keepE, updM, List.filter_cons, List.filter_nil, List.nil_append, List.cons_append, List.map_cons, List.map_nil, envE, Mem.get, Nat.reduceEqDiff, reduceIte, Option.isNone_none, Option.isNone_some, Bool.false_eq_true, List.length_cons, List.length_nil, Nat.reduceAdd, Nat.reduceMul]
                          refine hK85 _ _ _ ?_
                          rcases Bool.eq_false_or_eq_true ((v72 != v30)) with h87 | h87
                          · replace h := ite_t h h87
                            refine rwp_t (isT h87) ?_
                            refine rwp_draw fun K88 hK88 => ?_
                            refine dr0 12992 rfl (ok (mv (.d (eU8 v71)))) (by kernel_rfl) ?_
                            refine dr0 13056 rfl (ok (mv (.d (eI a1)))) (by kernel_rfl) ?_
                            refine dr0 13120 rfl (ok (ofI8 _ a1)) (by kernel_rfl) ?_
                            refine dr0 13184 rfl (ok (fa_k 0 rfl)) (by kernel_rfl) ?_
                            refine dr0 13248 rfl (ok (ld_v (v := .d (eI ((a0.getD v72.toNat (TApiShare.mk (0 : Int) ([] : List (BitVec 8)))).X))) rfl rfl rfl)) (by kernel_rfl) ?_
                            obtain ⟨v89, h90, h⟩ := lett_inv h
                            refine dr0e 13312 rfl (ok (ofI8 _ ((a0.getD v72.toNat (TApiShare.mk (0 : Int) ([] : List (BitVec 8)))).X))) (congrArg (fun z => PV.d (eU8 z)) h90) (by kernel_rfl) ?_
                            refine dr0 13376 rfl (ok (xor8 _ _)) (by kernel_rfl) ?_
                            refine dr0 13440 rfl (ok (fa_k 0 rfl)) (by kernel_rfl) ?_
                            refine dr0 13504 rfl (ok (ld_v (v := .d (eI ((a0.getD v30.toNat (TApiShare.mk (0 : Int) ([] : List (BitVec 8)))).X))) rfl rfl rfl)) (by kernel_rfl) ?_
                            obtain ⟨v91, h92, h⟩ := lett_inv h
                            refine dr0e 13568 rfl (ok (ofI8 _ ((a0.getD v30.toNat (TApiShare.mk (0 : Int) ([] : List (BitVec 8)))).X))) (congrArg (fun z => PV.d (eU8 z)) h92) (by kernel_rfl) ?_
                            refine dr0 13632 rfl (ok (fa_k 0 rfl)) (by kernel_rfl) ?_
                            refine dr0 13696 rfl (ok (ld_v (v := .d (eI ((a0.getD v72.toNat (TApiShare.mk (0 : Int) ([] : List (BitVec 8)))).X))) rfl rfl rfl)) (by kernel_rfl) ?_
                            obtain ⟨v93, h94, h⟩ := lett_inv h
                            refine dr0e 13760 rfl (ok (ofI8 _ ((a0.getD v72.toNat (TApiShare.mk (0 : Int) ([] : List (BitVec 8)))).X))) (congrArg (fun z => PV.d (eU8 z)) h94) (by kernel_rfl) ?_
                            refine dr0 13824 rfl (ok (xor8 _ _)) (by kernel_rfl) ?_
                            obtain ⟨y95, h96, h⟩ := bind_inv h
                            refine dr0 13888 rfl (call_ok (v := .d (eU8 y95)) (u := []) (ar_d (eU8 (v91 ^^^ v93)) ar_nil) rfl (sharingInverseOK (v91 ^^^ v93) y95 h96) rfl) (by kernel_rfl) ?_
                            obtain ⟨y97, h98, h⟩ := bind_inv h
                            refine dr0 13952 rfl (call_ok (v := .d (eU8 y97)) (u := []) (ar_d (eU8 ((BitVec.ofInt 8 a1) ^^^ v89)) (ar_d (eU8 y95) ar_nil)) rfl (sharingMulOK ((BitVec.ofInt 8 a1) ^^^ v89) y95 y97 h98) rfl) (by kernel_rfl) ?_
                            obtain ⟨y99, h100, h⟩ := bind_inv h
                            refine dr0 14016 rfl (call_ok (v := .d (eU8 y99)) (u := []) (ar_d (eU8 v71) (ar_d (eU8 y97) ar_nil)) rfl (sharingMulOK v71 y97 y99 h100) rfl) (by kernel_rfl) ?_
                            refine dr0 14080 rfl (ok (mv (.d (eU8 y99)))) (by kernel_rfl) ?_
                            refine hK88 _ _ ?_
                            simp only [thenK, blockK, keepE, updM, List.filter_cons, List.filter_nil, List.nil_append, List.cons_append, List.map_cons, List.map_nil, envE, Mem.get, Nat.reduceEqDiff, reduceIte, Option.isNone_none, Option.isNone_some, Bool.false_eq_true, List.length_cons, List.length_nil, Nat.reduceAdd, Nat.reduceMul]
                            refine hK81 _ _ _ ?_
                            exact hK79 _ _ _ ⟨_, _, Settled.refl, _, _, ⟨_, h, rfl, rfl⟩, ⟨rfl, ⟨⟨rfl, rfl⟩, ⟨⟨rfl, rfl⟩, ⟨⟨rfl, rfl⟩, ⟨⟨rfl, rfl⟩, ⟨⟨rfl, rfl⟩, ⟨⟨rfl, rfl⟩, ⟨⟨rfl, rfl⟩, ⟨⟨rfl, rfl⟩, ⟨⟨rfl, rfl⟩, ⟨⟨rfl, rfl⟩, ⟨⟨rfl, rfl⟩, ⟨⟨rfl, rfl⟩, trivial⟩⟩⟩⟩⟩⟩⟩⟩⟩⟩⟩⟩, ⟨⟨rfl, rfl⟩, ⟨⟨rfl, rfl⟩, trivial⟩⟩⟩, rfl⟩
                          · replace h := ite_f h h87
                            refine rwp_f (isF h87) ?_
                            refine rwp_skip ?_
                            refine hK81 _ _ _ ?_
                            exact hK79 _ _ _ ⟨_, _, Settled.refl, _, _, ⟨_, h, rfl, rfl⟩, ⟨rfl, ⟨⟨rfl, rfl⟩, ⟨⟨rfl, rfl⟩, ⟨⟨rfl, rfl⟩, ⟨⟨rfl, rfl⟩, ⟨⟨rfl, rfl⟩, ⟨⟨rfl, rfl⟩, ⟨⟨rfl, rfl⟩, ⟨⟨rfl, rfl⟩, ⟨⟨rfl, rfl⟩, ⟨⟨rfl, rfl⟩, ⟨⟨rfl, rfl⟩, ⟨⟨rfl, rfl⟩, trivial⟩⟩⟩⟩⟩⟩⟩⟩⟩⟩⟩⟩, ⟨⟨rfl, rfl⟩, ⟨⟨rfl, rfl⟩, trivial⟩⟩⟩, rfl⟩
                      · replace h := ite_f h h77
                        refine rwp_f (isF h77) ?_
                        refine rwp_exit ?_
                        refine hK70 _ _ _ ?_
                        exact hK46 _ _ _ ⟨_, _, Settled.refl, _, _, ⟨_, h, rfl, rfl⟩, ⟨rfl, ⟨⟨rfl, rfl⟩, ⟨⟨rfl, rfl⟩, ⟨⟨rfl, rfl⟩, ⟨⟨rfl, rfl⟩, ⟨⟨rfl, rfl⟩, ⟨⟨rfl, rfl⟩, ⟨⟨rfl, rfl⟩, ⟨⟨rfl, rfl⟩, trivial⟩⟩⟩⟩⟩⟩⟩⟩, ⟨⟨rfl, rfl⟩, ⟨⟨rfl, rfl⟩, trivial⟩⟩⟩, rfl⟩
              · replace h := ite_f h h35
                refine rwp_f (isF h35) ?_
                refine rwp_exit ?_
                refine hK28 _ _ _ ?_
                exact hK23 _ _ _ ⟨_, _, Settled.refl, _, _, ⟨_, h, rfl, rfl⟩, ⟨rfl, ⟨⟨rfl, rfl⟩, trivial⟩, ⟨⟨rfl, rfl⟩, trivial⟩⟩, rfl⟩
        · refine rwp_seq fun K101 hK101 => ?_
          refine rwp_region fun K102 hK102 => ?_
          refine st0 960 rfl (ok (mv (.d ((eL 2 eTApiShare) a0)))) ?_
          refine st0 1024 rfl (ok (lenL _ _)) ?_
          refine st0 1088 rfl (ok (mv (.d (eI (0 : Int))))) ?_
          refine hK102 _ _ ?_
          simp only [thenK, blockK, keepE, updM, List.filter_cons, List.filter_nil, List.nil_append, List.cons_append, List.map_cons, List.map_nil, envE, Mem.get, Nat.reduceEqDiff, reduceIte, Option.isNone_none, Option.isNone_some, Bool.false_eq_true, List.length_cons, List.length_nil, Nat.reduceAdd, Nat.reduceMul]
          refine hK101 _ _ _ ?_
          refine rwp_block fun K103 hK103 => ?_
          refine rwp_loop ([], []) 3840 (fun k env mem => ∃ (v104 : List (Bool)) (v105 : Int), sharingAtL10 a0 a1 k v104 v105 = some res ∧ env = [(0, .d ((eL 2 eTApiShare) a0)), (1, .d (eI a1)), (6, .ptr 832 0), (26, .d ((eL 2 eTApiShare) a0)), (27, .d (eI (a0.length : Int))), (28, .d (eI v105))] ∧ mem = [(832, .var .mine (v104.map fun x => .d (eB x)))]) FUEL ⟨_, _, Settled.refl, _, _, ⟨_, _, h, rfl, rfl⟩, ⟨rfl, ⟨⟨rfl, rfl⟩, ⟨⟨rfl, rfl⟩, ⟨⟨rfl, rfl⟩, ⟨⟨rfl, rfl⟩, ⟨⟨rfl, rfl⟩, ⟨⟨rfl, rfl⟩, trivial⟩⟩⟩⟩⟩⟩, ⟨(by first | exact vara_ret rfl rfl | exact ⟨rfl, rfl⟩), trivial⟩⟩, rfl⟩ (fun k10 env1 mem1 hI K106 hK106 => ?_)
          obtain ⟨v104, v105, h, rfl, rfl⟩ := hI
          cases k10 with
          | zero => simp [sharingAtL10] at h
          | succ k10 =>
            rw [sharingAtL10] at h
            refine rwp_seq fun K107 hK107 => ?_
            refine rwp_region fun K108 hK108 => ?_
            refine st0 3904 rfl (ok (lssI _ _)) ?_
            refine hK108 _ _ ?_
            simp only [thenK, blockK, keepE, updM, List.filter_cons, List.filter_nil, List.nil_append, List.cons_append, List.map_cons, List.map_nil, envE, Mem.get, Nat.reduceEqDiff, reduceIte, Option.isNone_none, Option.isNone_some, Bool.false_eq_true, List.length_cons, List.length_nil, Nat.reduceAdd, Nat.reduceMul]
            refine hK107 _ _ _ ?_
            refine rwp_seq fun K109 hK109 => ?_
            rcases Bool.eq_false_or_eq_true ((decide (v105 < (a0.length : Int)))) with h110 | h110
            · replace h := ite_t h h110
              refine rwp_t (isT h110) ?_
              refine rwp_skip ?_
              refine hK109 _ _ _ ?_
              refine rwp_seq fun K111 hK111 => ?_
              refine rwp_block fun K112 hK112 => ?_
              refine rwp_seq fun K113 hK113 => ?_
              refine rwp_region fun K114 hK114 => ?_
              obtain ⟨h115, h⟩ := asq_inv h
              refine st0 3968 rfl (ok (iaL (e := eTApiShare) (xs := a0) (TApiShare.mk (0 : Int) ([] : List (BitVec 8))) h115)) ?_
              refine st0 4032 rfl (ok (ld_i (v := eTApiShare (a0.getD v105.toNat (TApiShare.mk (0 : Int) ([] : List (BitVec 8))))) rfl rfl)) ?_
              refine st1 4096 rfl (mem' := [(4032, .var .mine [.d (eI (0 : Int)), .nil 1]), (832, .var .mine (v104.map fun x => .d (eB x)))]) (ok (alc (zs := [.d (eI (0 : Int)), .nil 1]))) rfl ?_
              refine stn 4160 rfl (mem' := [(4032, .var .mine [.d (eI ((a0.getD v105.toNat (TApiShare.mk (0 : Int) ([] : List (BitVec 8)))).X)), .d ((eL 1 eU8) ((a0.getD v105.toNat (TApiShare.mk (0 : Int) ([] : List (BitVec 8)))).Data))]), (832, .var .mine (v104.map fun x => .d (eB x)))]) (ok (sto_v (ps' := [.d (eI ((a0.getD v105.toNat (TApiShare.mk (0 : Int) ([] : List (BitVec 8)))).X)), .d ((eL 1 eU8) ((a0.getD v105.toNat (TApiShare.mk (0 : Int) ([] : List (BitVec 8)))).Data))]) rfl rfl rfl rfl)) rfl ?_
              refine hK114 _ _ ?_
              simp only [thenK, blockK, keepE, updM, List.filter_cons, List.filter_nil, List.nil_append, List.cons_append, List.map_cons, List.map_nil, envE, Mem.get, Nat.reduceEqDiff, reduceIte, Option.isNone_none, Option.isNone_some, Bool.false_eq_true, List.length_cons, List.length_nil, Nat.reduceAdd, Nat.reduceMul]
              refine hK113 _ _ _ ?_
              refine rwp_seq fun K116 hK116 => ?_
              refine rwp_block fun K117 hK117 => ?_
              refine rwp_join ([], []) 4800 (fun env mem => ∃ (v118 : Bool), sharingAtJ11 (sharingAtL10 a0 a1 k10) a0 v104 v105 v118 = some res ∧ env = [(0, .d ((eL 2 eTApiShare) a0)), (1, .d (eI a1)), (6, .ptr 832 0), (8, .ptr 4032 0), (26, .d ((eL 2 eTApiShare) a0)), (27, .d (eI (a0.length : Int))), (28, .d (eI v105)), (32, .d (eB v118))] ∧ mem = [(832, .var .mine (v104.map fun x => .d (eB x))), (4032, .var .mine [.d (eI ((a0.getD v105.toNat (TApiShare.mk (0 : Int) ([] : List (BitVec 8)))).X)), .d ((eL 1 eU8) ((a0.getD v105.toNat (TApiShare.mk (0 : Int) ([] : List (BitVec 8)))).Data))])]) (fun _ _ hI => ?_) (fun K119 hK119 => ?_)
              · obtain ⟨v118, h, rfl, rfl⟩ := hI
                unfold sharingAtJ11 at h
                rcases Bool.eq_false_or_eq_true (v118) with h120 | h120
                · replace h := ite_t h h120
                  refine rwp_t (isT h120) ?_
                  refine rwp_seq fun K121 hK121 => ?_
                  refine rwp_region fun K122 hK122 => ?_
                  refine st0 4864 rfl (ok (mv (.nil 1))) ?_
                  refine st0 4928 rfl (ok (mv (.d (eI (9 : Int))))) ?_
                  refine hK122 _ _ ?_
                  simp only [thenK, blockK, keepE, updM, List.filter_cons, List.filter_nil, List.nil_append, List.cons_append, List.map_cons, List.map_nil, envE, Mem.get, Nat.reduceEqDiff, reduceIte, Option.isNone_none, Option.isNone_some, Bool.false_eq_true, List.length_cons, List.length_nil, Nat.reduceAdd, Nat.reduceMul]
                  refine hK121 _ _ _ ?_
                  refine rwp_ret ?_
                  obtain rfl := Option.some.inj h
                  try simp only [thenK, blockK, reduceIte]
                  exact Or.inl (end_ok trivial (rs_t (v := .nil 1) rfl (rs_t (v := .d (eI (9 : Int))) rfl rs_nil)) (en_nilr (en_d (to_d _) en_nil)) ou_nil (by first | exact eok rfl rfl rfl rfl (And.intro (And.intro rfl rfl) trivial) | (refine eok ?_ ?_ ?_ ?_ ?_ <;> first | rfl | exact (And.intro (And.intro rfl rfl) trivial) | simp [retM, Mem.get, PV.renL, PV.ren, Blk.ren, comps, rhoR, rhoM, appN, PV.refsL, PV.refs, keys, nodupB, Blk.refs, allIn, Blk.bor])))
                · replace h := ite_f h h120
                  refine rwp_f (isF h120) ?_
                  refine rwp_seq fun K123 hK123 => ?_
                  refine rwp_region fun K124 hK124 => ?_
                  refine st0 4864 rfl (ok (fa_k 0 rfl)) ?_
                  refine st0 4928 rfl (ok (ld_v (v := .d (eI ((a0.getD v105.toNat (TApiShare.mk (0 : Int) ([] : List (BitVec 8)))).X))) rfl rfl rfl)) ?_
                  obtain ⟨h125, h⟩ := asq_inv h
                  refine st0 4992 rfl (ok (iarr_1 h125)) ?_
                  obtain ⟨h126, h⟩ := asq_inv h
                  refine st0 5056 rfl (ok (ld_va (e := eB) (xs := v104) false rfl h126)) ?_
                  refine st0 5120 rfl (ok (mv (.d (eB (v104.getD ((a0.getD v105.toNat (TApiShare.mk (0 : Int) ([] : List (BitVec 8)))).X).toNat false))))) ?_
                  refine hK124 _ _ ?_
                  simp only [thenK, blockK, keepE, updM, List.filter_cons, List.filter_nil, List.nil_append, List.cons_append, List.map_cons, List.map_nil, envE, Mem.get, Nat.reduceEqDiff, reduceIte, Option.isNone_none, Option.isNone_some, Bool.false_eq_true, List.length_cons, List.length_nil, Nat.reduceAdd, Nat.reduceMul]
                  refine hK123 _ _ _ ?_
                  rcases Bool.eq_false_or_eq_true ((v104.getD ((a0.getD v105.toNat (TApiShare.mk (0 : Int) ([] : List (BitVec 8)))).X).toNat false)) with h127 | h127
                  · replace h := ite_t h h127
                    refine rwp_t (isT h127) ?_
                    refine rwp_seq fun K128 hK128 => ?_
                    refine rwp_region fun K129 hK129 => ?_
                    refine st0 5184 rfl (ok (mv (.nil 1))) ?_
                    refine st0 5248 rfl (ok (mv (.d (eI (10 : Int))))) ?_
                    refine hK129 _ _ ?_
                    simp only [thenK, blockK, keepE, updM, List.filter_cons, List.filter_nil, List.nil_append, List.cons_append, List.map_cons, List.map_nil, envE, Mem.get, Nat.reduceEqDiff, reduceIte, Option.isNone_none, Option.isNone_some, Bool.false_eq_true, List.length_cons, List.length_nil, Nat.reduceAdd, Nat.reduceMul]
                    refine hK128 _ _ _ ?_
                    refine rwp_ret ?_
                    obtain rfl := Option.some.inj h
                    try simp only [thenK, blockK, reduceIte]
                    exact Or.inl (end_ok trivial (rs_t (v := .nil 1) rfl (rs_t (v := .d (eI (10 : Int))) rfl rs_nil)) (en_nilr (en_d (to_d _) en_nil)) ou_nil (by first | exact eok rfl rfl rfl rfl (And.intro (And.intro rfl rfl) trivial) | (refine eok ?_ ?_ ?_ ?_ ?_ <;> first | rfl | exact (And.intro (And.intro rfl rfl) trivial) | simp [retM, Mem.get, PV.renL, PV.ren, Blk.ren, comps, rhoR, rhoM, appN, PV.refsL, PV.refs, keys, nodupB, Blk.refs, allIn, Blk.bor])))
                  · replace h := ite_f h h127
                    refine rwp_f (isF h127) ?_
                    refine rwp_seq fun K130 hK130 => ?_
                    refine rwp_draw fun K131 hK131 => ?_
                    refine dr0 5184 rfl (ok (fa_k 1 rfl)) (by kernel_rfl) ?_
                    refine dr0 5248 rfl (ok (ld_v (v := .d ((eL 1 eU8) ((a0.getD v105.toNat (TApiShare.mk (0 : Int) ([] : List (BitVec 8)))).Data))) rfl rfl rfl)) (by kernel_rfl) ?_
                    refine dr0 5312 rfl (ok (lenL _ _)) (by kernel_rfl) ?_
                    refine dr0 5376 rfl (ok (mv (.d ((eL 2 eTApiShare) a0)))) (by kernel_rfl) ?_
                    obtain ⟨h132, h⟩ := asq_inv h
                    refine dr0 5440 rfl (ok (iaL (e := eTApiShare) (xs := a0) (TApiShare.mk (0 : Int) ([] : List (BitVec 8))) h132)) (by kernel_rfl) ?_
                    refine dr0 5504 rfl (ok fa_iptr) (by kernel_rfl) ?_
                    refine dr0 5568 rfl (ok (ld_i (v := (eL 1 eU8) ((a0.getD (0 : Int).toNat (TApiShare.mk (0 : Int) ([] : List (BitVec 8)))).Data)) rfl rfl)) (by kernel_rfl) ?_
                    refine dr0 5632 rfl (ok (lenL _ _)) (by kernel_rfl) ?_
                    refine dr0 5696 rfl (ok (neqI _ _)) (by kernel_rfl) ?_
                    refine dr0 5760 rfl (ok (mv (.d (eB (((((a0.getD v105.toNat (TApiShare.mk (0 : Int) ([] : List (BitVec 8)))).Data)).length : Int) != ((((a0.getD (0 : Int).toNat (TApiShare.mk (0 : Int) ([] : List (BitVec 8)))).Data)).length : Int)))))) (by kernel_rfl) ?_
                    refine hK131 _ _ ?_
                    simp only [thenK, blockK, keepE, updM, List.filter_cons, List.filter_nil, List.nil_append, List.cons_append, List.map_cons, List.map_nil, envE, Mem.get, Nat.reduceEqDiff, reduceIte, Option.isNone_none, Option.isNone_some, Bool.false_eq_true, List.length_cons, List.length_nil, Nat.reduceAdd, Nat.reduceMul]
                    refine hK130 _ _ _ ?_
                    rcases Bool.eq_false_or_eq_true ((((((a0.getD v105.toNat (TApiShare.mk (0 : Int) ([] : List (BitVec 8)))).Data)).length : Int) != ((((a0.getD (0 : Int).toNat (TApiShare.mk (0 : Int) ([] : List (BitVec 8)))).Data)).length : Int))) with h133 | h133
                    · replace h := ite_t h h133
                      refine rwp_t (isT h133) ?_
                      refine rwp_seq fun K134 hK134 => ?_
                      refine rwp_region fun K135 hK135 => ?_
                      refine st0 5824 rfl (ok (mv (.nil 1))) ?_
                      refine st0 5888 rfl (ok (mv (.d (eI (4 : Int))))) ?_
                      refine hK135 _ _ ?_
                      simp only [thenK, blockK, keepE, updM, List.filter_cons, List.filter_nil, List.nil_append, List.cons_append, List.map_cons, List.map_nil, envE, Mem.get, Nat.reduceEqDiff, reduceIte, Option.isNone_none, Option.isNone_some, Bool.false_eq_true, List.length_cons, List.length_nil, Nat.reduceAdd, Nat.reduceMul]
                      refine hK134 _ _ _ ?_
                      refine rwp_ret ?_
                      obtain rfl := Option.some.inj h
                      try simp only [thenK, blockK, reduceIte]
                      exact Or.inl (end_ok trivial (rs_t (v := .nil 1) rfl (rs_t (v := .d (eI (4 : Int))) rfl rs_nil)) (en_nilr (en_d (to_d _) en_nil)) ou_nil (by first | exact eok rfl rfl rfl rfl (And.intro (And.intro rfl rfl) trivial) | (refine eok ?_ ?_ ?_ ?_ ?_ <;> first | rfl | exact (And.intro (And.intro rfl rfl) trivial) | simp [retM, Mem.get, PV.renL, PV.ren, Blk.ren, comps, rhoR, rhoM, appN, PV.refsL, PV.refs, keys, nodupB, Blk.refs, allIn, Blk.bor])))
                    · replace h := ite_f h h133
                      refine rwp_f (isF h133) ?_
                      refine rwp_seq fun K136 hK136 => ?_
                      refine rwp_region fun K137 hK137 => ?_
                      refine st0 5824 rfl (ok (fa_k 1 rfl)) ?_
                      refine st0 5888 rfl (ok (ld_v (v := .d ((eL 1 eU8) ((a0.getD v105.toNat (TApiShare.mk (0 : Int) ([] : List (BitVec 8)))).Data))) rfl rfl rfl)) ?_
                      refine st0 5952 rfl (ok (lenL _ _)) ?_
                      refine st0 6016 rfl (ok (gtrI _ (64 : Int))) ?_
                      refine st0 6080 rfl (ok (mv (.d (eB (decide ((64 : Int) < ((((a0.getD v105.toNat (TApiShare.mk (0 : Int) ([] : List (BitVec 8)))).Data)).length : Int))))))) ?_
                      refine hK137 _ _ ?_
                      simp only [thenK, blockK, keepE, updM, List.filter_cons, List.filter_nil, List.nil_append, List.cons_append, List.map_cons, List.map_nil, envE, Mem.get, Nat.reduceEqDiff, reduceIte, Option.isNone_none, Option.isNone_some, Bool.false_eq_true, List.length_cons, List.length_nil, Nat.reduceAdd, Nat.reduceMul]
                      refine hK136 _ _ _ ?_
                      rcases Bool.eq_false_or_eq_true ((decide ((64 : Int) < ((((a0.getD v105.toNat (TApiShare.mk (0 : Int) ([] : List (BitVec 8)))).Data)).length : Int)))) with h138 | h138
                      · replace h := ite_t h h138
                        refine rwp_t (isT h138) ?_
                        refine rwp_seq fun K139 hK139 => ?_
                        refine rwp_region fun K140 hK140 => ?_
                        refine st0 6144 rfl (ok (mv (.nil 1))) ?_
                        refine st0 6208 rfl (ok (mv (.d (eI (8 : Int))))) ?_
                        refine hK140 _ _ ?_
                        simp only [thenK, blockK, keepE, updM, List.filter_cons, List.filter_nil, List.nil_append, List.cons_append, List.map_cons, List.map_nil, envE, Mem.get, Nat.reduceEqDiff, reduceIte, Option.isNone_none, Option.isNone_some, Bool.false_eq_true, List.length_cons, List.length_nil, Nat.reduceAdd, Nat.reduceMul]
                        refine hK139 _ _ _ ?_
                        refine rwp_ret ?_
                        obtain rfl := Option.some.inj h
                        try simp only [thenK, blockK, reduceIte]
                        exact Or.inl (end_ok trivial (rs_t (v := .nil 1) rfl (rs_t (v := .d (eI (8 : Int))) rfl rs_nil)) (en_nilr (en_d (to_d _) en_nil)) ou_nil (by first | exact eok rfl rfl rfl rfl (And.intro (And.intro rfl rfl) trivial) | (refine eok ?_ ?_ ?_ ?_ ?_ <;> first | rfl | exact (And.intro (And.intro rfl rfl) trivial) | simp [retM, Mem.get, PV.renL, PV.ren, Blk.ren, comps, rhoR, rhoM, appN, PV.refsL, PV.refs, keys, nodupB, Blk.refs, allIn, Blk.bor])))
                      · replace h := ite_f h h138
                        refine rwp_f (isF h138) ?_
                        refine rwp_skip ?_
                        refine hK117 _ _ _ ?_
                        refine hK116 _ _ _ ?_
                        refine rwp_region fun K141 hK141 => ?_
                        refine st0 6144 rfl (ok (fa_k 0 rfl)) ?_
                        refine st0 6208 rfl (ok (ld_v (v := .d (eI ((a0.getD v105.toNat (TApiShare.mk (0 : Int) ([] : List (BitVec 8)))).X))) rfl rfl rfl)) ?_
                        obtain ⟨h142, h⟩ := asq_inv h
                        refine st0 6272 rfl (ok (iarr_1 h142)) ?_
                        obtain ⟨h143, h⟩ := asq_inv h
                        refine stn 6336 rfl (mem' := [(832, .var .mine ((v104.set (((a0.getD v105.toNat (TApiShare.mk (0 : Int) ([] : List (BitVec 8)))).X).toNat) true).map fun x => .d (eB x))), (4032, .var .mine [.d (eI ((a0.getD v105.toNat (TApiShare.mk (0 : Int) ([] : List (BitVec 8)))).X)), .d ((eL 1 eU8) ((a0.getD v105.toNat (TApiShare.mk (0 : Int) ([] : List (BitVec 8)))).Data))])]) (ok (sto_va (e := eB) (xs := v104) (y := true) rfl rfl h143 rfl)) rfl ?_
                        refine hK141 _ _ ?_
                        simp only [thenK, blockK, keepE, updM, List.filter_cons, List.filter_nil, List.nil_append, List.cons_append, List.map_cons, List.map_nil, envE, Mem.get, Nat.reduceEqDiff, reduceIte, Option.isNone_none, Option.isNone_some, Bool.false_eq_true, List.length_cons, List.length_nil, Nat.reduceAdd, Nat.reduceMul]
                        refine hK112 _ _ _ ?_
                        refine hK111 _ _ _ ?_
                        refine rwp_region fun K144 hK144 => ?_
                        refine st0 6400 rfl (ok (addI _ (1 : Int))) ?_
                        refine st0 6464 rfl (ok (mv (.d (eI (w64 (v105 + (1 : Int))))))) ?_
                        refine hK144 _ _ ?_
                        simp only [thenK, blockK, keepE, updM, List.filter_cons, List.filter_nil, List.nil_append, List.cons_append, List.map_cons, List.map_nil, envE, Mem.get, Nat.reduceEqDiff, reduceIte, Option.isNone_none, Option.isNone_some, Bool.false_eq_true, List.length_cons, List.length_nil, Nat.reduceAdd, Nat.reduceMul]
                        exact hK106.out _ _ _ k10 (Nat.lt_succ_self k10) ⟨_, _, Settled.refl, _, _, ⟨_, _, h, rfl, rfl⟩, ⟨rfl, ⟨⟨rfl, rfl⟩, ⟨⟨rfl, rfl⟩, ⟨⟨rfl, rfl⟩, ⟨⟨rfl, rfl⟩, ⟨⟨rfl, rfl⟩, ⟨⟨rfl, rfl⟩, trivial⟩⟩⟩⟩⟩⟩, ⟨(by first | exact vara_ret rfl rfl | exact ⟨rfl, rfl⟩), trivial⟩⟩, rfl⟩
              · refine rwp_region fun K145 hK145 => ?_
                refine st0 4224 rfl (ok (fa_k 0 rfl)) ?_
                refine st0 4288 rfl (ok (ld_v (v := .d (eI ((a0.getD v105.toNat (TApiShare.mk (0 : Int) ([] : List (BitVec 8)))).X))) rfl rfl rfl)) ?_
                refine st0 4352 rfl (ok (lssI _ (1 : Int))) ?_
                refine st0 4416 rfl (ok (mv (.d (eB (decide (((a0.getD v105.toNat (TApiShare.mk (0 : Int) ([] : List (BitVec 8)))).X) < (1 : Int))))))) ?_
                rcases Bool.eq_false_or_eq_true ((decide (((a0.getD v105.toNat (TApiShare.mk (0 : Int) ([] : List (BitVec 8)))).X) < (1 : Int)))) with h146 | h146
                · replace h := ite_t h h146
                  refine stGN 4480 rfl rfl h146 ?_
                  refine stGN 4544 rfl rfl h146 ?_
                  refine stGN 4608 rfl rfl h146 ?_
                  refine st0 4672 rfl (ok (pick_t h146 (.d (eB true)) _)) ?_
                  refine st0 4736 rfl (ok (mv (.d (eB true)))) ?_
                  refine hK145 _ _ ?_
                  simp only [thenK, blockK, keepE, updM, List.filter_cons, List.filter_nil, List.nil_append, List.cons_append, List.map_cons, List.map_nil, envE, Mem.get, Nat.reduceEqDiff, reduceIte, Option.isNone_none, Option.isNone_some, Bool.false_eq_true, List.length_cons, List.length_nil, Nat.reduceAdd, Nat.reduceMul]
                  exact hK119 _ _ _ ⟨_, _, Settled.refl, _, _, ⟨_, h, rfl, rfl⟩, ⟨rfl, ⟨⟨rfl, rfl⟩, ⟨⟨rfl, rfl⟩, ⟨⟨rfl, rfl⟩, ⟨⟨rfl, rfl⟩, ⟨⟨rfl, rfl⟩, ⟨⟨rfl, rfl⟩, ⟨⟨rfl, rfl⟩, ⟨⟨rfl, rfl⟩, trivial⟩⟩⟩⟩⟩⟩⟩⟩, ⟨(by first | exact vara_ret rfl rfl | exact ⟨rfl, rfl⟩), ⟨⟨rfl, rfl⟩, trivial⟩⟩⟩, rfl⟩
                · replace h := ite_f h h146
                  refine stG (isF h146) ?_
                  refine st0 4480 rfl (ok (fa_k 0 rfl)) ?_
                  refine stG (isF h146) ?_
                  refine st0 4544 rfl (ok (ld_v (v := .d (eI ((a0.getD v105.toNat (TApiShare.mk (0 : Int) ([] : List (BitVec 8)))).X))) rfl rfl rfl)) ?_
                  refine stG (isF h146) ?_
                  refine st0 4608 rfl (ok (gtrI _ (255 : Int))) ?_
                  refine st0 4672 rfl (ok (pick_f h146 _ (.d (eB (decide ((255 : Int) < ((a0.getD v105.toNat (TApiShare.mk (0 : Int) ([] : List (BitVec 8)))).X))))))) ?_
                  refine st0 4736 rfl (ok (mv (.d (eB (decide ((255 : Int) < ((a0.getD v105.toNat (TApiShare.mk (0 : Int) ([] : List (BitVec 8)))).X))))))) ?_
                  refine hK145 _ _ ?_
                  simp only [thenK, blockK, keepE, updM, List.filter_cons, List.filter_nil, List.nil_append, List.cons_append, List.map_cons, List.map_nil, envE, Mem.get, Nat.reduceEqDiff, reduceIte, Option.isNone_none, Option.isNone_some, Bool.false_eq_true, List.length_cons, List.length_nil, Nat.reduceAdd, Nat.reduceMul]
                  exact hK119 _ _ _ ⟨_, _, Settled.refl, _, _, ⟨_, h, rfl, rfl⟩, ⟨rfl, ⟨⟨rfl, rfl⟩, ⟨⟨rfl, rfl⟩, ⟨⟨rfl, rfl⟩, ⟨⟨rfl, rfl⟩, ⟨⟨rfl, rfl⟩, ⟨⟨rfl, rfl⟩, ⟨⟨rfl, rfl⟩, ⟨⟨rfl, rfl⟩, trivial⟩⟩⟩⟩⟩⟩⟩⟩, ⟨(by first | exact vara_ret rfl rfl | exact ⟨rfl, rfl⟩), ⟨⟨rfl, rfl⟩, trivial⟩⟩⟩, rfl⟩
            · replace h := ite_f h h110
              refine rwp_f (isF h110) ?_
              refine rwp_exit ?_
              refine hK103 _ _ _ ?_
              exact hK17 _ _ _ ⟨_, _, Settled.refl, _, _, ⟨h, rfl, rfl⟩, ⟨rfl, ⟨⟨rfl, rfl⟩, ⟨⟨rfl, rfl⟩, trivial⟩⟩, trivial⟩, rfl⟩
    · refine rwp_region fun K147 hK147 => ?_
      refine st0 448 rfl (ok (mv (.d (eI a1)))) ?_
      refine st0 512 rfl (ok (lssI _ (0 : Int))) ?_
      refine st0 576 rfl (ok (mv (.d (eB (decide (a1 < (0 : Int))))))) ?_
      rcases Bool.eq_false_or_eq_true ((decide (a1 < (0 : Int)))) with h148 | h148
      · replace h := ite_t h h148
        refine stGN 640 rfl rfl h148 ?_
        refine stGN 704 rfl rfl h148 ?_
        refine st0 768 rfl (ok (pick_t h148 (.d (eB true)) _)) ?_
        refine hK147 _ _ ?_
        simp only [thenK, blockK, keepE, updM, List.filter_cons, List.filter_nil, List.nil_append, List.cons_append, List.map_cons, List.map_nil, envE, Mem.get, Nat.reduceEqDiff, reduceIte, Option.isNone_none, Option.isNone_some, Bool.false_eq_true, List.length_cons, List.length_nil, Nat.reduceAdd, Nat.reduceMul]
        exact hK11 _ _ _ ⟨_, _, Settled.refl, _, _, ⟨_, h, rfl, rfl⟩, ⟨rfl, ⟨⟨rfl, rfl⟩, ⟨⟨rfl, rfl⟩, ⟨⟨rfl, rfl⟩, trivial⟩⟩⟩, trivial⟩, rfl⟩
      · replace h := ite_f h h148
        refine stG (isF h148) ?_
        refine st0 640 rfl (ok (mv (.d (eI a1)))) ?_
        refine stG (isF h148) ?_
        refine st0 704 rfl (ok (gtrI _ (255 : Int))) ?_
        refine st0 768 rfl (ok (pick_f h148 _ (.d (eB (decide ((255 : Int) < a1)))))) ?_
        refine hK147 _ _ ?_
        simp only [thenK, blockK, keepE, updM, List.filter_cons, List.filter_nil, List.nil_append, List.cons_append, List.map_cons, List.map_nil, envE, Mem.get, Nat.reduceEqDiff, reduceIte, Option.isNone_none, Option.isNone_some, Bool.false_eq_true, List.length_cons, List.length_nil, Nat.reduceAdd, Nat.reduceMul]
        exact hK11 _ _ _ ⟨_, _, Settled.refl, _, _, ⟨_, h, rfl, rfl⟩, ⟨rfl, ⟨⟨rfl, rfl⟩, ⟨⟨rfl, rfl⟩, ⟨⟨rfl, rfl⟩, trivial⟩⟩⟩, trivial⟩, rfl⟩

end Go.Proofs.Ty
