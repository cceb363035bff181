/- Each Go function comes to what its plain function says. PRINTED by a program of this session (ty.py). -/
import Derived.Test.YtkgdoilkneogdaaS7
set_option linter.unusedVariables false
set_option linter.unusedSimpArgs false
set_option maxHeartbeats 4000000
set_option maxRecDepth 10000
namespace Go.Proofs.Ty
open Go Go.RW Go.Proofs
/-- passkey/passkeylaw29.ChallengeOnce -/
def passkeylaw29ChallengeOnceH : Hints := ⟨[(0, [0, 1, 2, 3]), (1, [1, 2, 3, 9]), (2, [1, 2, 3, 9, 10]), (3, [1, 2, 3, 9, 10, 11]), (4, [1, 2, 3, 9, 10, 11, 34]), (6, [1, 2, 3, 9, 10, 11, 12, 13, 14]), (7, [1, 2, 3, 9, 10, 11, 12, 13, 64]), (8, [8]), (9, [1, 2, 3, 9, 10, 11]), (5, [1, 2, 3, 9, 10, 11]), (10, [1, 2, 3, 9, 10, 15]), (11, [1, 2, 3, 9, 10, 15, 73]), (13, [1, 2, 3, 9, 10, 15, 16]), (14, [1, 2, 3, 9, 10, 15, 16, 78]), (16, [1, 2, 3, 9, 10, 15, 16, 91]), (17, [8]), (15, [1, 2, 3, 9, 10, 15, 16]), (12, [1, 2, 3, 9, 10, 15]), (18, [1, 2, 3, 9, 10, 17]), (19, [1, 2, 3, 9, 10, 17, 18]), (20, [1, 2, 3, 9, 10, 17, 18, 107]), (22, [1, 2, 3, 9, 10, 17, 18, 19]), (23, [1, 2, 3, 9, 10, 17, 18, 19, 20]), (24, [1, 2, 3, 9, 10, 17, 18, 19, 20, 21, 22, 23]), (25, [1, 2, 3, 9, 10, 17, 18, 19, 21, 22, 23, 24]), (26, [1, 2, 3, 9, 10, 17, 18, 19, 21, 24, 196]), (27, [8]), (28, [1, 2, 3, 9, 10, 17, 18, 21]), (29, [1, 2, 3, 9, 10, 17, 18]), (21, [1, 2, 3, 9, 10, 17, 18]), (30, [8])], []⟩
def passkeylaw29ChallengeOnceRc : RCode :=
  .seq (.region false [⟨some 8, .mv, [.k (.d (.bool false))], none, []⟩] [0, 1, 2, 3]) (.seq (.region false [⟨some 25, .mv, [.t 0], none, []⟩, ⟨some 26, .call 9 true, [.t 25], none,
  []⟩, ⟨some 9, .alloc [.d (.int .u64 0), .d (.int .i64 0), .nil 5], [], none, []⟩, ⟨none, .store 3, [.t 9, .t 26], none, []⟩] [1, 2, 3, 9]) (.seq (.region false [⟨some 10, .mv,
  [.k (.nil 1)], none, []⟩] [1, 2, 3, 9, 10]) (.seq (.seq (.region false [⟨some 11, .mv, [.k (.d (.int .i64 0))], none, []⟩] [1, 2, 3, 9, 10, 11]) (.block 0 (.loop [] (.seq (.seq
  (.region false [⟨some 27, .mv, [.t 11], none, []⟩, ⟨some 28, .mv, [.t 1], none, []⟩, ⟨some 29, .len, [.t 28], none, []⟩, ⟨some 30, .bin .lss, [.t 27, .t 29], none, []⟩, ⟨some 31,
  .mv, [.t 30], none, []⟩, ⟨some 32, .mv, [.t 11], some (31, true), []⟩, ⟨some 33, .bin .lss, [.t 32, .k (.d (.int .i64 20))], some (31, true), []⟩, ⟨some 34, .pick, [.t 31, .t 33,
  .k (.d (.bool false))], none, []⟩] [1, 2, 3, 9, 10, 11, 34]) (.cond (.t 34) .skip (.exit 0))) (.seq (.block 1 (.seq (.region true [⟨some 38, .load 3 true, [.t 9], none, []⟩,
  ⟨some 39, .mv, [.t 1], none, []⟩, ⟨some 40, .mv, [.t 11], none, []⟩, ⟨some 41, .ia 1, [.t 39, .t 40], none, [1, 2]⟩, ⟨some 42, .load 1 false, [.t 41], none, [1, 2, 3]⟩, ⟨some 43,
  .bin .and, [.t 42, .k (.d (.int .u8 1))], none, [1, 2, 3, 4]⟩, ⟨some 44, .cvt .i64, [.t 43], none, [1, 2, 3, 4, 5]⟩, ⟨some 45, .bin .add, [.k (.d (.int .i64 1)), .t 44], none,
  [1, 2, 3, 4, 5, 6]⟩, ⟨some 46, .mv, [.t 1], none, []⟩, ⟨some 47, .mv, [.t 11], none, []⟩, ⟨some 48, .ia 1, [.t 46, .t 47], none, [8, 9]⟩, ⟨some 49, .load 1 false, [.t 48], none,
  [8, 9, 10]⟩, ⟨some 50, .cvt .i64, [.t 49], none, [8, 9, 10, 11]⟩, ⟨some 51, .bin .rem, [.t 50, .k (.d (.int .i64 3))], none, [8, 9, 10, 11, 12]⟩, ⟨some 52, .call 11 false, [.t
  51], none, [8, 9, 10, 11, 12, 13]⟩, ⟨some 53, .mv, [.t 1], none, []⟩, ⟨some 54, .mv, [.t 11], none, []⟩, ⟨some 55, .ia 1, [.t 53, .t 54], none, [15, 16]⟩, ⟨some 56, .load 1
  false, [.t 55], none, [15, 16, 17]⟩, ⟨some 57, .bin .and, [.t 56, .k (.d (.int .u8 8))], none, [15, 16, 17, 18]⟩, ⟨some 58, .bin .eql, [.t 57, .k (.d (.int .u8 8))], none, [15,
  16, 17, 18, 19]⟩, ⟨some 59, .call 10 true, [.t 38, .t 45, .t 52, .t 58, .k (.d (.int .i64 100))], none, [0, 1, 2, 3, 4, 5, 6, 7, 8, 9, 10, 11, 12, 13, 14, 15, 16, 17, 18, 19,
  20]⟩, ⟨some 37, .mv, [.t 59], none, [0, 1, 2, 3, 4, 5, 6, 7, 8, 9, 10, 11, 12, 13, 14, 15, 16, 17, 18, 19, 20, 21]⟩, ⟨some 60, .ext 0, [.t 37], none, [0, 1, 2, 3, 4, 5, 6, 7, 8,
  9, 10, 11, 12, 13, 14, 15, 16, 17, 18, 19, 20, 21, 22]⟩, ⟨some 61, .ext 1, [.t 37], none, [0, 1, 2, 3, 4, 5, 6, 7, 8, 9, 10, 11, 12, 13, 14, 15, 16, 17, 18, 19, 20, 21, 22]⟩,
  ⟨some 62, .ext 2, [.t 37], none, [0, 1, 2, 3, 4, 5, 6, 7, 8, 9, 10, 11, 12, 13, 14, 15, 16, 17, 18, 19, 20, 21, 22]⟩, ⟨some 12, .alloc [.d (.int .u64 0), .d (.int .i64 0), .nil
  5], [], none, []⟩, ⟨none, .store 3, [.t 12, .t 60], none, [0, 1, 2, 3, 4, 5, 6, 7, 8, 9, 10, 11, 12, 13, 14, 15, 16, 17, 18, 19, 20, 21, 22, 23, 26]⟩, ⟨some 13, .mv, [.t 61],
  none, [0, 1, 2, 3, 4, 5, 6, 7, 8, 9, 10, 11, 12, 13, 14, 15, 16, 17, 18, 19, 20, 21, 22, 23, 24, 26, 27]⟩, ⟨some 14, .mv, [.t 62], none, [0, 1, 2, 3, 4, 5, 6, 7, 8, 9, 10, 11,
  12, 13, 14, 15, 16, 17, 18, 19, 20, 21, 22, 23, 24, 25, 26, 27, 28]⟩] [1, 2, 3, 9, 10, 11, 12, 13, 14]) (.seq (.seq (.region false [⟨some 63, .mv, [.t 14], none, []⟩, ⟨some 64,
  .bin .neq, [.t 63, .k (.d (.int .i64 0))], none, []⟩] [1, 2, 3, 9, 10, 11, 12, 13, 64]) (.cond (.t 64) (.seq (.region false [⟨some 8, .mv, [.k (.d (.bool false))], none, []⟩]
  [8]) .ret) .skip)) (.region true [⟨some 65, .load 3 true, [.t 12], none, []⟩, ⟨some 66, .mv, [.t 10], none, []⟩, ⟨some 67, .mv, [.t 13], none, []⟩, ⟨some 68, .bslice 1 false 1
  [.nil 1] [0], [.t 67], none, [2]⟩, ⟨some 69, .app 1 5864062014805, [.t 66, .t 68], none, [1, 2, 3]⟩, ⟨none, .store 3, [.t 9, .t 65], none, [0, 1, 2, 3, 4]⟩, ⟨some 10, .mv, [.t
  69], none, [0, 1, 2, 3, 4, 5]⟩] [1, 2, 3, 9, 10, 11])))) (.region false [⟨some 35, .mv, [.t 11], none, []⟩, ⟨some 36, .bin .add, [.t 35, .k (.d (.int .i64 1))], none, []⟩, ⟨some
  11, .mv, [.t 36], none, []⟩] [1, 2, 3, 9, 10, 11])))))) (.seq (.seq (.region false [⟨some 15, .mv, [.k (.d (.int .i64 0))], none, []⟩] [1, 2, 3, 9, 10, 15]) (.block 2 (.loop []
  (.seq (.seq (.region false [⟨some 70, .mv, [.t 15], none, []⟩, ⟨some 71, .mv, [.t 10], none, []⟩, ⟨some 72, .len, [.t 71], none, []⟩, ⟨some 73, .bin .lss, [.t 70, .t 72], none,
  []⟩] [1, 2, 3, 9, 10, 15, 73]) (.cond (.t 73) .skip (.exit 2))) (.seq (.block 3 (.seq (.region false [⟨some 16, .mv, [.k (.d (.int .i64 0))], none, []⟩] [1, 2, 3, 9, 10, 15, 16])
  (.block 4 (.loop [] (.seq (.seq (.region false [⟨some 76, .mv, [.t 16], none, []⟩, ⟨some 77, .mv, [.t 15], none, []⟩, ⟨some 78, .bin .lss, [.t 76, .t 77], none, []⟩] [1, 2, 3, 9,
  10, 15, 16, 78]) (.cond (.t 78) .skip (.exit 4))) (.seq (.block 5 (.seq (.region true [⟨some 81, .mv, [.t 10], none, []⟩, ⟨some 82, .mv, [.t 15], none, []⟩, ⟨some 83, .ia 1, [.t
  81, .t 82], none, [0, 1]⟩, ⟨some 84, .load 1 false, [.t 83], none, [0, 1, 2]⟩, ⟨some 85, .b2s, [.t 84], none, [0, 1, 2, 3]⟩, ⟨some 86, .mv, [.t 10], none, []⟩, ⟨some 87, .mv, [.t
  16], none, []⟩, ⟨some 88, .ia 1, [.t 86, .t 87], none, [5, 6]⟩, ⟨some 89, .load 1 false, [.t 88], none, [5, 6, 7]⟩, ⟨some 90, .b2s, [.t 89], none, [5, 6, 7, 8]⟩, ⟨some 91, .bin
  .eql, [.t 85, .t 90], none, [0, 1, 2, 3, 4, 5, 6, 7, 8, 9]⟩] [1, 2, 3, 9, 10, 15, 16, 91]) (.cond (.t 91) (.seq (.region false [⟨some 8, .mv, [.k (.d (.bool false))], none, []⟩]
  [8]) .ret) .skip))) (.region false [⟨some 79, .mv, [.t 16], none, []⟩, ⟨some 80, .bin .add, [.t 79, .k (.d (.int .i64 1))], none, []⟩, ⟨some 16, .mv, [.t 80], none, []⟩] [1, 2,
  3, 9, 10, 15, 16]))))))) (.region false [⟨some 74, .mv, [.t 15], none, []⟩, ⟨some 75, .bin .add, [.t 74, .k (.d (.int .i64 1))], none, []⟩, ⟨some 15, .mv, [.t 75], none, []⟩] [1,
  2, 3, 9, 10, 15])))))) (.seq (.region false [⟨some 92, .mv, [.t 10], none, []⟩, ⟨some 93, .len, [.t 92], none, []⟩, ⟨some 94, .mks 1 false [.d (.bool false)] 281474976710656, [.t
  93, .t 93], none, []⟩, ⟨some 17, .mv, [.t 94], none, []⟩] [1, 2, 3, 9, 10, 17]) (.seq (.seq (.region false [⟨some 18, .mv, [.k (.d (.int .i64 0))], none, []⟩] [1, 2, 3, 9, 10,
  17, 18]) (.block 6 (.loop [] (.seq (.seq (.region false [⟨some 95, .mv, [.t 18], none, []⟩, ⟨some 96, .mv, [.t 2], none, []⟩, ⟨some 97, .len, [.t 96], none, []⟩, ⟨some 98, .bin
  .lss, [.t 95, .t 97], none, []⟩, ⟨some 99, .mv, [.t 98], none, []⟩, ⟨some 100, .mv, [.t 18], some (99, true), []⟩, ⟨some 101, .bin .lss, [.t 100, .k (.d (.int .i64 40))], some
  (99, true), []⟩, ⟨some 102, .pick, [.t 99, .t 101, .k (.d (.bool false))], none, []⟩, ⟨some 103, .mv, [.t 102], none, []⟩, ⟨some 104, .mv, [.t 10], some (103, true), []⟩, ⟨some
  105, .len, [.t 104], some (103, true), []⟩, ⟨some 106, .bin .gtr, [.t 105, .k (.d (.int .i64 0))], some (103, true), []⟩, ⟨some 107, .pick, [.t 103, .t 106, .k (.d (.bool
  false))], none, []⟩] [1, 2, 3, 9, 10, 17, 18, 107]) (.cond (.t 107) .skip (.exit 6))) (.seq (.block 7 (.seq (.region false [⟨some 110, .mv, [.t 2], none, []⟩, ⟨some 111, .mv, [.t
  18], none, []⟩, ⟨some 112, .ia 1, [.t 110, .t 111], none, []⟩, ⟨some 113, .load 1 false, [.t 112], none, []⟩, ⟨some 114, .cvt .i64, [.t 113], none, []⟩, ⟨some 115, .mv, [.t 10],
  none, []⟩, ⟨some 116, .len, [.t 115], none, []⟩, ⟨some 117, .bin .rem, [.t 114, .t 116], none, []⟩, ⟨some 19, .mv, [.t 117], none, []⟩] [1, 2, 3, 9, 10, 17, 18, 19]) (.seq
  (.region false [⟨some 118, .mv, [.t 2], none, []⟩, ⟨some 119, .mv, [.t 18], none, []⟩, ⟨some 120, .ia 1, [.t 118, .t 119], none, []⟩, ⟨some 121, .load 1 false, [.t 120], none,
  []⟩, ⟨some 122, .bin .shr, [.t 121, .k (.d (.int .u64 7))], none, []⟩, ⟨some 123, .cvt .i64, [.t 122], none, []⟩, ⟨some 124, .bin .add, [.k (.d (.int .i64 1)), .t 123], none,
  []⟩, ⟨some 20, .mv, [.t 124], none, []⟩] [1, 2, 3, 9, 10, 17, 18, 19, 20]) (.seq (.region true [⟨some 126, .load 3 true, [.t 9], none, []⟩, ⟨some 127, .mv, [.t 10], none, []⟩,
  ⟨some 128, .mv, [.t 19], none, []⟩, ⟨some 129, .ia 1, [.t 127, .t 128], none, [1, 2]⟩, ⟨some 130, .load 1 false, [.t 129], none, [1, 2, 3]⟩, ⟨some 131, .mv, [.t 20], none, []⟩,
  ⟨some 132, .mv, [.t 3], none, []⟩, ⟨some 133, .cvt .i64, [.t 132], none, [6]⟩, ⟨some 134, .bin .add, [.k (.d (.int .i64 100)), .t 133], none, [6, 7]⟩, ⟨some 135, .call 12 true,
  [.t 126, .t 130, .t 131, .t 134], none, [0, 1, 2, 3, 4, 5, 6, 7, 8]⟩, ⟨some 125, .mv, [.t 135], none, [0, 1, 2, 3, 4, 5, 6, 7, 8, 9]⟩, ⟨some 136, .ext 0, [.t 125], none, [0, 1,
  2, 3, 4, 5, 6, 7, 8, 9, 10]⟩, ⟨some 137, .ext 1, [.t 125], none, [0, 1, 2, 3, 4, 5, 6, 7, 8, 9, 10]⟩, ⟨some 138, .ext 2, [.t 125], none, [0, 1, 2, 3, 4, 5, 6, 7, 8, 9, 10]⟩,
  ⟨some 21, .alloc [.d (.int .u64 0), .d (.int .i64 0), .nil 5], [], none, []⟩, ⟨some 22, .alloc [.d (.int .i64 0), .d (.int .i64 0), .d (.str ⟨#[]⟩), .d (.bool false), .d (.int
  .i64 0)], [], none, []⟩, ⟨none, .store 3, [.t 21, .t 136], none, [0, 1, 2, 3, 4, 5, 6, 7, 8, 9, 10, 11, 14, 15]⟩, ⟨none, .store 5, [.t 22, .t 137], none, [0, 1, 2, 3, 4, 5, 6, 7,
  8, 9, 10, 11, 12, 14, 15, 16]⟩, ⟨some 23, .mv, [.t 138], none, [0, 1, 2, 3, 4, 5, 6, 7, 8, 9, 10, 11, 12, 13, 14, 15, 16, 17]⟩] [1, 2, 3, 9, 10, 17, 18, 19, 20, 21, 22, 23])
  (.seq (.region false [⟨some 139, .mv, [.t 17], none, []⟩, ⟨some 140, .mv, [.t 19], none, []⟩, ⟨some 141, .ia 1, [.t 139, .t 140], none, []⟩, ⟨some 142, .load 1 false, [.t 141],
  none, []⟩, ⟨some 143, .un .not, [.t 142], none, []⟩, ⟨some 144, .mv, [.t 143], none, []⟩, ⟨some 145, .mv, [.t 20], some (144, true), []⟩, ⟨some 146, .mv, [.t 1], some (144,
  true), []⟩, ⟨some 147, .mv, [.t 19], some (144, true), []⟩, ⟨some 148, .ia 1, [.t 146, .t 147], some (144, true), []⟩, ⟨some 149, .load 1 false, [.t 148], some (144, true), []⟩,
  ⟨some 150, .bin .and, [.t 149, .k (.d (.int .u8 1))], some (144, true), []⟩, ⟨some 151, .cvt .i64, [.t 150], some (144, true), []⟩, ⟨some 152, .bin .add, [.k (.d (.int .i64 1)),
  .t 151], some (144, true), []⟩, ⟨some 153, .bin .eql, [.t 145, .t 152], some (144, true), []⟩, ⟨some 154, .pick, [.t 144, .t 153, .k (.d (.bool false))], none, []⟩, ⟨some 155,
  .mv, [.t 154], none, []⟩, ⟨some 156, .mv, [.t 3], some (155, true), []⟩, ⟨some 157, .cvt .i64, [.t 156], some (155, true), []⟩, ⟨some 158, .bin .leq, [.t 157, .k (.d (.int .i64
  60))], some (155, true), []⟩, ⟨some 159, .pick, [.t 155, .t 158, .k (.d (.bool false))], none, []⟩, ⟨some 24, .mv, [.t 159], none, []⟩] [1, 2, 3, 9, 10, 17, 18, 19, 21, 22, 23,
  24]) (.seq (.seq (.region true [⟨some 160, .mv, [.t 23], none, []⟩, ⟨some 161, .bin .eql, [.t 160, .k (.d (.int .i64 0))], none, [0]⟩, ⟨some 162, .mv, [.t 24], none, []⟩, ⟨some
  163, .bool .neq, [.t 161, .t 162], none, [0, 1, 2]⟩, ⟨some 164, .mv, [.t 163], none, [0, 1, 2, 3]⟩, ⟨some 165, .mv, [.t 23], some (164, false), [0, 1, 2, 3, 4]⟩, ⟨some 166, .bin
  .eql, [.t 165, .k (.d (.int .i64 0))], some (164, false), [0, 1, 2, 3, 4, 5]⟩, ⟨some 167, .mv, [.t 166], some (164, false), [0, 1, 2, 3, 4, 5, 6]⟩, ⟨some 168, .fa 0, [.t 22],
  some (167, true), [0, 1, 2, 3, 4, 5, 6, 7]⟩, ⟨some 169, .load 1 false, [.t 168], some (167, true), [0, 1, 2, 3, 4, 5, 6, 7, 8]⟩, ⟨some 170, .mv, [.t 19], some (167, true), [0, 1,
  2, 3, 4, 5, 6, 7]⟩, ⟨some 171, .bin .neq, [.t 169, .t 170], some (167, true), [0, 1, 2, 3, 4, 5, 6, 7, 8, 9, 10]⟩, ⟨some 172, .mv, [.t 171], some (167, true), [0, 1, 2, 3, 4, 5,
  6, 7, 8, 9, 10, 11]⟩, ⟨some 173, .fa 2, [.t 22], some (172, false), [0, 1, 2, 3, 4, 5, 6, 7, 8, 9, 10, 11, 12]⟩, ⟨some 174, .load 1 false, [.t 173], some (172, false), [0, 1, 2,
  3, 4, 5, 6, 7, 8, 9, 10, 11, 12, 13]⟩, ⟨some 175, .mv, [.t 1], some (172, false), [0, 1, 2, 3, 4, 5, 6, 7, 8, 9, 10, 11, 12]⟩, ⟨some 176, .mv, [.t 19], some (172, false), [0, 1,
  2, 3, 4, 5, 6, 7, 8, 9, 10, 11, 12]⟩, ⟨some 177, .ia 1, [.t 175, .t 176], some (172, false), [0, 1, 2, 3, 4, 5, 6, 7, 8, 9, 10, 11, 12, 15, 16]⟩, ⟨some 178, .load 1 false, [.t
  177], some (172, false), [0, 1, 2, 3, 4, 5, 6, 7, 8, 9, 10, 11, 12, 15, 16, 17]⟩, ⟨some 179, .cvt .i64, [.t 178], some (172, false), [0, 1, 2, 3, 4, 5, 6, 7, 8, 9, 10, 11, 12,
  15, 16, 17, 18]⟩, ⟨some 180, .bin .rem, [.t 179, .k (.d (.int .i64 3))], some (172, false), [0, 1, 2, 3, 4, 5, 6, 7, 8, 9, 10, 11, 12, 15, 16, 17, 18, 19]⟩, ⟨some 181, .call 11
  false, [.t 180], some (172, false), [0, 1, 2, 3, 4, 5, 6, 7, 8, 9, 10, 11, 12, 15, 16, 17, 18, 19, 20]⟩, ⟨some 182, .bin .neq, [.t 174, .t 181], some (172, false), [0, 1, 2, 3,
  4, 5, 6, 7, 8, 9, 10, 11, 12, 13, 14, 15, 16, 17, 18, 19, 20, 21]⟩, ⟨some 183, .pick, [.t 172, .k (.d (.bool true)), .t 182], some (167, true), [0, 1, 2, 3, 4, 5, 6, 7, 8, 9, 10,
  11, 12, 13, 14, 15, 16, 17, 18, 19, 20, 21, 22]⟩, ⟨some 184, .mv, [.t 183], some (167, true), [0, 1, 2, 3, 4, 5, 6, 7, 8, 9, 10, 11, 12, 13, 14, 15, 16, 17, 18, 19, 20, 21, 22,
  23]⟩, ⟨some 185, .fa 3, [.t 22], some (184, false), [0, 1, 2, 3, 4, 5, 6, 7, 8, 9, 10, 11, 12, 13, 14, 15, 16, 17, 18, 19, 20, 21, 22, 23, 24]⟩, ⟨some 186, .load 1 false, [.t
  185], some (184, false), [0, 1, 2, 3, 4, 5, 6, 7, 8, 9, 10, 11, 12, 13, 14, 15, 16, 17, 18, 19, 20, 21, 22, 23, 24, 25]⟩, ⟨some 187, .mv, [.t 1], some (184, false), [0, 1, 2, 3,
  4, 5, 6, 7, 8, 9, 10, 11, 12, 13, 14, 15, 16, 17, 18, 19, 20, 21, 22, 23, 24]⟩, ⟨some 188, .mv, [.t 19], some (184, false), [0, 1, 2, 3, 4, 5, 6, 7, 8, 9, 10, 11, 12, 13, 14, 15,
  16, 17, 18, 19, 20, 21, 22, 23, 24]⟩, ⟨some 189, .ia 1, [.t 187, .t 188], some (184, false), [0, 1, 2, 3, 4, 5, 6, 7, 8, 9, 10, 11, 12, 13, 14, 15, 16, 17, 18, 19, 20, 21, 22,
  23, 24, 27, 28]⟩, ⟨some 190, .load 1 false, [.t 189], some (184, false), [0, 1, 2, 3, 4, 5, 6, 7, 8, 9, 10, 11, 12, 13, 14, 15, 16, 17, 18, 19, 20, 21, 22, 23, 24, 27, 28, 29]⟩,
  ⟨some 191, .bin .and, [.t 190, .k (.d (.int .u8 8))], some (184, false), [0, 1, 2, 3, 4, 5, 6, 7, 8, 9, 10, 11, 12, 13, 14, 15, 16, 17, 18, 19, 20, 21, 22, 23, 24, 27, 28, 29,
  30]⟩, ⟨some 192, .bin .eql, [.t 191, .k (.d (.int .u8 8))], some (184, false), [0, 1, 2, 3, 4, 5, 6, 7, 8, 9, 10, 11, 12, 13, 14, 15, 16, 17, 18, 19, 20, 21, 22, 23, 24, 27, 28,
  29, 30, 31]⟩, ⟨some 193, .bool .neq, [.t 186, .t 192], some (184, false), [0, 1, 2, 3, 4, 5, 6, 7, 8, 9, 10, 11, 12, 13, 14, 15, 16, 17, 18, 19, 20, 21, 22, 23, 24, 25, 26, 27,
  28, 29, 30, 31, 32]⟩, ⟨some 194, .pick, [.t 184, .k (.d (.bool true)), .t 193], some (167, true), [0, 1, 2, 3, 4, 5, 6, 7, 8, 9, 10, 11, 12, 13, 14, 15, 16, 17, 18, 19, 20, 21,
  22, 23, 24, 25, 26, 27, 28, 29, 30, 31, 32, 33]⟩, ⟨some 195, .pick, [.t 167, .t 194, .k (.d (.bool false))], some (164, false), [0, 1, 2, 3, 4, 5, 6, 7, 8, 9, 10, 11, 12, 13, 14,
  15, 16, 17, 18, 19, 20, 21, 22, 23, 24, 25, 26, 27, 28, 29, 30, 31, 32, 33, 34]⟩, ⟨some 196, .pick, [.t 164, .k (.d (.bool true)), .t 195], none, [0, 1, 2, 3, 4, 5, 6, 7, 8, 9,
  10, 11, 12, 13, 14, 15, 16, 17, 18, 19, 20, 21, 22, 23, 24, 25, 26, 27, 28, 29, 30, 31, 32, 33, 34, 35]⟩] [1, 2, 3, 9, 10, 17, 18, 19, 21, 24, 196]) (.cond (.t 196) (.seq
  (.region false [⟨some 8, .mv, [.k (.d (.bool false))], none, []⟩] [8]) .ret) .skip)) (.seq (.region false [⟨some 197, .mv, [.t 17], none, []⟩, ⟨some 198, .mv, [.t 19], none, []⟩,
  ⟨some 199, .mv, [.t 17], none, []⟩, ⟨some 200, .mv, [.t 19], none, []⟩, ⟨some 201, .ia 1, [.t 199, .t 200], none, []⟩, ⟨some 202, .load 1 false, [.t 201], none, []⟩, ⟨some 203,
  .mv, [.t 202], none, []⟩, ⟨some 204, .mv, [.t 24], some (203, false), []⟩, ⟨some 205, .pick, [.t 203, .k (.d (.bool true)), .t 204], none, []⟩, ⟨some 206, .ia 1, [.t 197, .t
  198], none, []⟩, ⟨none, .store 1, [.t 206, .t 205], none, []⟩] [1, 2, 3, 9, 10, 17, 18, 21]) (.region false [⟨some 207, .load 3 true, [.t 21], none, []⟩, ⟨none, .store 3, [.t 9,
  .t 207], none, []⟩] [1, 2, 3, 9, 10, 17, 18])))))))) (.region false [⟨some 108, .mv, [.t 18], none, []⟩, ⟨some 109, .bin .add, [.t 108, .k (.d (.int .i64 1))], none, []⟩, ⟨some
  18, .mv, [.t 109], none, []⟩] [1, 2, 3, 9, 10, 17, 18])))))) (.seq (.region false [⟨some 208, .call 6 false, [], none, []⟩, ⟨some 8, .mv, [.t 208], none, []⟩] [8]) .ret)))))))
def passkeylaw29ChallengeOnceRr : List RR := [.t 8]
theorem passkeylaw29ChallengeOnceC : compFn Try.prog 4 passkeylaw29ChallengeOnceH = some (passkeylaw29ChallengeOnceRc, passkeylaw29ChallengeOnceRr, 209) := by kernel_rfl
theorem passkeylaw29ChallengeOnceOK (a0 : BitVec 64) (a1 : List (BitVec 8)) (a2 : List (BitVec 8)) (a3 : BitVec 8) (res : Bool) (h : passkeylaw29ChallengeOnce a0 a1 a2 a3 = some res) : CallOK Try.prog 4 [.d (eU64 a0), .d ((eL 1 eU8) a1), .d ((eL 1 eU8) a2), .d (eU8 a3)] [] (.d (eB res)) [] := by
  unfold passkeylaw29ChallengeOnce at h
  refine callOK passkeylaw29ChallengeOnceC fm rfl ?_
  simp only [initE, initM, nbor, List.map_cons, List.map_nil, Nat.reduceAdd]
  unfold passkeylaw29ChallengeOnceRc
  refine rwp_seq fun K1 hK1 => ?_
  refine rwp_region fun K2 hK2 => ?_
  refine st0 128 rfl (ok (mv (.d (eB false)))) ?_
  refine hK2 _ _ ?_
  simp only [thenK, blockK, keepE, updM, List.filter_cons, List.filter_nil, List.nil_append, List.cons_append, List.map_cons, List.map_nil, envE, Mem.get, Nat.reduceEqDiff, reduceIte, Option.isNone_none, Option.isNone_some, Bool.false_eq_true, List.length_cons, List.length_nil, Nat.reduceAdd, Nat.reduceMul]
  refine hK1 _ _ _ ?_
  refine rwp_seq fun K3 hK3 => ?_
  refine rwp_region fun K4 hK4 => ?_
  refine st0 192 rfl (ok (mv (.d (eU64 a0)))) ?_
  obtain ⟨y5, h6, h⟩ := bind_inv h
  refine st0 256 rfl (call_ok (v := .d (eTApiChallenges y5)) (u := []) (ar_d (eU64 a0) ar_nil) rfl (challengeNewOK a0 y5 h6) rfl) ?_
  refine st1 320 rfl (mem' := [(256, .var .mine [.d (eU64 (0#64)), .d (eI (0 : Int)), .nil 5])]) (ok (alc (zs := [.d (eU64 (0#64)), .d (eI (0 : Int)), .nil 5]))) rfl ?_
  refine stn 384 rfl (mem' := [(256, .var .mine [.d (eU64 y5.Secret), .d (eI y5.Count), .d ((eL 5 eTApiChallenge) y5.Open)])]) (ok (sto_v (ps' := [.d (eU64 y5.Secret), .d (eI y5.Count), .d ((eL 5 eTApiChallenge) y5.Open)]) rfl rfl rfl rfl)) rfl ?_
  refine hK4 _ _ ?_
  simp only [thenK, blockK, keepE, updM, List.filter_cons, List.filter_nil, List.nil_append, List.cons_append, List.map_cons, List.map_nil, envE, Mem.get, Nat.reduceEqDiff, reduceIte, Option.isNone_none, Option.isNone_some, Bool.false_eq_true, List.length_cons, List.length_nil, Nat.reduceAdd, Nat.reduceMul]
  refine hK3 _ _ _ ?_
  refine rwp_seq fun K7 hK7 => ?_
  refine rwp_region fun K8 hK8 => ?_
  refine st0 448 rfl (ok (mv (.nil 1))) ?_
  refine hK8 _ _ ?_
  simp only [thenK, blockK, keepE, updM, List.filter_cons, List.filter_nil, List.nil_append, List.cons_append, List.map_cons, List.map_nil, envE, Mem.get, Nat.reduceEqDiff, reduceIte, Option.isNone_none, Option.isNone_some, Bool.false_eq_true, List.length_cons, List.length_nil, Nat.reduceAdd, Nat.reduceMul]
  refine hK7 _ _ _ ?_
  refine rwp_join ([], []) 4608 (fun env mem => ∃ (v9 : BitVec 64) (v10 : Int) (v11 : List (TApiChallenge)) (v12 : List (List (BitVec 8))), passkeylaw29ChallengeOnceJ1 a1 a2 a3 v9 v10 v11 v12 = some res ∧ env = [(1, .d ((eL 1 eU8) a1)), (2, .d ((eL 1 eU8) a2)), (3, .d (eU8 a3)), (9, .ptr 256 0), (10, .ref 3905 v12.length 0 v12.length)] ∧ mem = [(256, .var .mine [.d (eU64 v9), .d (eI v10), .d ((eL 5 eTApiChallenge) v11)]), (3905, .row true 1 (v12.map (eL 1 eU8)))]) (fun _ _ hI => ?_) (fun K13 hK13 => ?_)
  · obtain ⟨v9, v10, v11, v12, h, rfl, rfl⟩ := hI
    unfold passkeylaw29ChallengeOnceJ1 at h
    refine rwp_join ([], []) 7104 (fun env mem => passkeylaw29ChallengeOnceJ2 a1 a2 a3 v9 v10 v11 v12 = some res ∧ env = [(1, .d ((eL 1 eU8) a1)), (2, .d ((eL 1 eU8) a2)), (3, .d (eU8 a3)), (9, .ptr 256 0), (10, .ref 3905 v12.length 0 v12.length)] ∧ mem = [(256, .var .mine [.d (eU64 v9), .d (eI v10), .d ((eL 5 eTApiChallenge) v11)]), (3905, .row true 1 (v12.map (eL 1 eU8)))]) (fun _ _ hI => ?_) (fun K14 hK14 => ?_)
    · obtain ⟨h, rfl, rfl⟩ := hI
      unfold passkeylaw29ChallengeOnceJ2 at h
      refine rwp_seq fun K15 hK15 => ?_
      refine rwp_region fun K16 hK16 => ?_
      refine st0 7168 rfl (ok (mv (.ref 3905 v12.length 0 v12.length))) ?_
      refine st0 7232 rfl (ok (lenR _ _ _ _)) ?_
      obtain ⟨h17, h⟩ := asq_inv h
      refine st1 7296 rfl (mem' := [(7232, .row true 1 ((List.replicate (v12.length : Int).toNat false).map eB)), (256, .var .mine [.d (eU64 v9), .d (eI v10), .d ((eL 5 eTApiChallenge) v11)]), (3905, .row true 1 (v12.map (eL 1 eU8)))]) (ok (mks1 (e := eB) false rfl rfl h17)) rfl ?_
      refine st0 7360 rfl (ok (mv (.ref 7232 (((List.replicate (v12.length : Int).toNat false)).length) 0 (((List.replicate (v12.length : Int).toNat false)).length)))) ?_
      refine hK16 _ _ ?_
      simp only [thenK, blockK, keepE, updM, List.filter_cons, List.filter_nil, List.nil_append, List.cons_append, List.map_cons, List.map_nil, envE, Mem.get, Nat.reduceEqDiff, reduceIte, Option.isNone_none, Option.isNone_some, Bool.false_eq_true, List.length_cons, List.length_nil, Nat.reduceAdd, Nat.reduceMul]
      refine hK15 _ _ _ ?_
      refine rwp_join ([], []) 16704 (fun env mem => passkeylaw29ChallengeOnceJ3 = some res ∧ env = [] ∧ mem = []) (fun _ _ hI => ?_) (fun K18 hK18 => ?_)
      · obtain ⟨h, rfl, rfl⟩ := hI
        unfold passkeylaw29ChallengeOnceJ3 at h
        refine rwp_seq fun K19 hK19 => ?_
        refine rwp_region fun K20 hK20 => ?_
        obtain ⟨y21, h22, h⟩ := bind_inv h
        refine st0 16768 rfl (call_ok (v := .d (eB y21)) (u := []) ar_nil rfl (passkeylaw29awakeOK  y21 h22) rfl) ?_
        refine st0 16832 rfl (ok (mv (.d (eB y21)))) ?_
        refine hK20 _ _ ?_
        simp only [thenK, blockK, keepE, updM, List.filter_cons, List.filter_nil, List.nil_append, List.cons_append, List.map_cons, List.map_nil, envE, Mem.get, Nat.reduceEqDiff, reduceIte, Option.isNone_none, Option.isNone_some, Bool.false_eq_true, List.length_cons, List.length_nil, Nat.reduceAdd, Nat.reduceMul]
        refine hK19 _ _ _ ?_
        refine rwp_ret ?_
        obtain rfl := Option.some.inj h
        try simp only [thenK, blockK, reduceIte]
        exact Or.inl (end_ok trivial (rs_t (v := .d (eB y21)) rfl rs_nil) (en_d (to_d _) en_nil) ou_nil (by first | exact eok rfl rfl rfl rfl trivial | (refine eok ?_ ?_ ?_ ?_ ?_ <;> first | rfl | exact trivial | simp [retM, Mem.get, PV.renL, PV.ren, Blk.ren, comps, rhoR, rhoM, appN, PV.refsL, PV.refs, keys, nodupB, Blk.refs, allIn, Blk.bor])))
      · refine rwp_seq fun K23 hK23 => ?_
        refine rwp_region fun K24 hK24 => ?_
        refine st0 7424 rfl (ok (mv (.d (eI (0 : Int))))) ?_
        refine hK24 _ _ ?_
        simp only [thenK, blockK, keepE, updM, List.filter_cons, List.filter_nil, List.nil_append, List.cons_append, List.map_cons, List.map_nil, envE, Mem.get, Nat.reduceEqDiff, reduceIte, Option.isNone_none, Option.isNone_some, Bool.false_eq_true, List.length_cons, List.length_nil, Nat.reduceAdd, Nat.reduceMul]
        refine hK23 _ _ _ ?_
        refine rwp_block fun K25 hK25 => ?_
        refine rwp_loop ([], []) 15744 (fun k env mem => ∃ (v26 : BitVec 64) (v27 : Int) (v28 : List (TApiChallenge)) (v29 : List (Bool)) (v30 : Int), passkeylaw29ChallengeOnceL4 a1 a2 a3 v12 k v26 v27 v28 v29 v30 = some res ∧ env = [(1, .d ((eL 1 eU8) a1)), (2, .d ((eL 1 eU8) a2)), (3, .d (eU8 a3)), (9, .ptr 256 0), (10, .ref 3905 v12.length 0 v12.length), (17, .ref 7232 v29.length 0 v29.length), (18, .d (eI v30))] ∧ mem = [(256, .var .mine [.d (eU64 v26), .d (eI v27), .d ((eL 5 eTApiChallenge) v28)]), (3905, .row true 1 (v12.map (eL 1 eU8))), (7232, .row true 1 (v29.map eB))]) FUEL ⟨_, _, Settled.refl, _, _, ⟨_, _, _, _, _, h, rfl, rfl⟩, ⟨rfl, ⟨⟨rfl, rfl⟩, ⟨⟨rfl, rfl⟩, ⟨⟨rfl, rfl⟩, ⟨⟨rfl, rfl⟩, ⟨⟨rfl, rfl⟩, ⟨⟨rfl, rfl⟩, ⟨⟨rfl, rfl⟩, trivial⟩⟩⟩⟩⟩⟩⟩, ⟨⟨rfl, rfl⟩, ⟨⟨rfl, rfl⟩, ⟨⟨rfl, rfl⟩, trivial⟩⟩⟩⟩, rfl⟩ (fun k4 env1 mem1 hI K31 hK31 => ?_)
        obtain ⟨v26, v27, v28, v29, v30, h, rfl, rfl⟩ := hI
        cases k4 with
        | zero => simp [passkeylaw29ChallengeOnceL4] at h
        | succ k4 =>
          rw [passkeylaw29ChallengeOnceL4] at h
          refine rwp_seq fun K32 hK32 => ?_
          refine rwp_join ([], []) 16640 (fun env mem => ∃ (v33 : Bool), passkeylaw29ChallengeOnceJ5 (passkeylaw29ChallengeOnceL4 a1 a2 a3 v12 k4) a1 a2 a3 v12 v26 v27 v28 v29 v30 v33 = some res ∧ env = [(1, .d ((eL 1 eU8) a1)), (2, .d ((eL 1 eU8) a2)), (3, .d (eU8 a3)), (9, .ptr 256 0), (10, .ref 3905 v12.length 0 v12.length), (17, .ref 7232 v29.length 0 v29.length), (18, .d (eI v30)), (107, .d (eB v33))] ∧ mem = [(256, .var .mine [.d (eU64 v26), .d (eI v27), .d ((eL 5 eTApiChallenge) v28)]), (3905, .row true 1 (v12.map (eL 1 eU8))), (7232, .row true 1 (v29.map eB))]) (fun _ _ hI => ?_) (fun K34 hK34 => ?_)
          · obtain ⟨v33, h, rfl, rfl⟩ := hI
            unfold passkeylaw29ChallengeOnceJ5 at h
            rcases Bool.eq_false_or_eq_true (v33) with h35 | h35
            · replace h := ite_t h h35
              refine rwp_t (isT h35) ?_
              refine rwp_skip ?_
              refine hK32 _ _ _ ?_
              refine rwp_seq fun K36 hK36 => ?_
              refine rwp_block fun K37 hK37 => ?_
              refine rwp_seq fun K38 hK38 => ?_
              refine rwp_region fun K39 hK39 => ?_
              refine st0 16704 rfl (ok (mv (.d ((eL 1 eU8) a2)))) ?_
              refine st0 16768 rfl (ok (mv (.d (eI v30)))) ?_
              obtain ⟨h40, h⟩ := asq_inv h
              refine st0 16832 rfl (ok (iaL (e := eU8) (xs := a2) 0#8 h40)) ?_
              refine st0 16896 rfl (ok (ld_i (v := eU8 (a2.getD v30.toNat 0#8)) rfl rfl)) ?_
              refine st0 16960 rfl (ok (toI8 _)) ?_
              refine st0 17024 rfl (ok (mv (.ref 3905 v12.length 0 v12.length))) ?_
              refine st0 17088 rfl (ok (lenR _ _ _ _)) ?_
              obtain ⟨h41, h⟩ := asq_inv h
              obtain ⟨v42, h43, h⟩ := lett_inv h
              refine st0e 17152 rfl (ok (remI _ _ h41)) (congrArg (fun z => PV.d (eI z)) h43) ?_
              refine st0 17216 rfl (ok (mv (.d (eI v42)))) ?_
              refine hK39 _ _ ?_
              simp only [thenK, blockK, keepE, updM, List.filter_cons, List.filter_nil, List.nil_append, List.cons_append, List.map_cons, List.map_nil, envE, Mem.get, Nat.reduceEqDiff, reduceIte, Option.isNone_none, Option.isNone_some, Bool.false_eq_true, List.length_cons, List.length_nil, Nat.reduceAdd, Nat.reduceMul]
              refine hK38 _ _ _ ?_
              refine rwp_seq fun K44 hK44 => ?_
              refine rwp_region fun K45 hK45 => ?_
              refine st0 17280 rfl (ok (mv (.d ((eL 1 eU8) a2)))) ?_
              refine st0 17344 rfl (ok (mv (.d (eI v30)))) ?_
              obtain ⟨h46, h⟩ := asq_inv h
              refine st0 17408 rfl (ok (iaL (e := eU8) (xs := a2) 0#8 h46)) ?_
              refine st0 17472 rfl (ok (ld_i (v := eU8 (a2.getD v30.toNat 0#8)) rfl rfl)) ?_
              refine st0 17536 rfl (ok (shrL8 _ 7 rfl)) ?_
              refine st0 17600 rfl (ok (toI8 _)) ?_
              obtain ⟨v47, h48, h⟩ := lett_inv h
              refine st0e 17664 rfl (ok (addI (1 : Int) _)) (congrArg (fun z => PV.d (eI z)) h48) ?_
              refine st0 17728 rfl (ok (mv (.d (eI v47)))) ?_
              refine hK45 _ _ ?_
              simp only [thenK, blockK, keepE, updM, List.filter_cons, List.filter_nil, List.nil_append, List.cons_append, List.map_cons, List.map_nil, envE, Mem.get, Nat.reduceEqDiff, reduceIte, Option.isNone_none, Option.isNone_some, Bool.false_eq_true, List.length_cons, List.length_nil, Nat.reduceAdd, Nat.reduceMul]
              refine hK44 _ _ _ ?_
              refine rwp_seq fun K49 hK49 => ?_
              refine rwp_draw fun K50 hK50 => ?_
              refine dr0 17792 rfl (ok (ld_v (v := .d (.agg [eU64 v26, eI v27, (eL 5 eTApiChallenge) v28])) rfl rfl rfl)) (by kernel_rfl) ?_
              refine dr0 17856 rfl (ok (mv (.ref 3905 v12.length 0 v12.length))) (by kernel_rfl) ?_
              refine dr0 17920 rfl (ok (mv (.d (eI v42)))) (by kernel_rfl) ?_
              obtain ⟨h51, h⟩ := asq_inv h
              refine dr0 17984 rfl (ok (iaR (xs := v12) (e := (eL 1 eU8)) rfl rfl h51)) (by kernel_rfl) ?_
              refine dr0 18048 rfl (ok (ld_r (e := (eL 1 eU8)) (xs := v12) ([] : List (BitVec 8)) rfl rfl (by have := h51; simp at this ⊢; omega) rfl)) (by kernel_rfl) ?_
              refine dr0 18112 rfl (ok (mv (.d (eI v47)))) (by kernel_rfl) ?_
              refine dr0 18176 rfl (ok (mv (.d (eU8 a3)))) (by kernel_rfl) ?_
              refine dr0 18240 rfl (ok (toI8 _)) (by kernel_rfl) ?_
              refine dr0 18304 rfl (ok (addI (100 : Int) _)) (by kernel_rfl) ?_
              obtain ⟨y52, h53, h⟩ := bind_inv h
              refine dr0 18368 rfl (call_ok (v := .tup [.d (eTApiChallenges y52.1), .d (eTApiChallenge y52.2.1), .d (eI y52.2.2)]) (u := []) (ar_d (eTApiChallenges (TApiChallenges.mk v26 v27 v28)) (ar_d ((eL 1 eU8) (v12.getD (0 + v42.toNat) ([] : List (BitVec 8)))) (ar_d (eI v47) (ar_d (eI (w64 ((100 : Int) + (a3.toNat : Int)))) ar_nil)))) rfl (challengeUseOK (TApiChallenges.mk v26 v27 v28) (v12.getD (0 + v42.toNat) ([] : List (BitVec 8))) v47 (w64 ((100 : Int) + (a3.toNat : Int))) y52 h53) rfl) (by kernel_rfl) ?_
              refine dr0 18432 rfl (ok (mv (.tup [.d (eTApiChallenges y52.1), .d (eTApiChallenge y52.2.1), .d (eI y52.2.2)]))) (by kernel_rfl) ?_
              refine dr0 18496 rfl (ok (extr (v := .d (eTApiChallenges y52.1)) rfl rfl)) (by kernel_rfl) ?_
              refine dr0 18560 rfl (ok (extr (v := .d (eTApiChallenge y52.2.1)) rfl rfl)) (by kernel_rfl) ?_
              refine dr0 18624 rfl (ok (extr (v := .d (eI y52.2.2)) rfl rfl)) (by kernel_rfl) ?_
              refine dr1 18688 rfl (mem' := [(18624, .var .mine [.d (eU64 (0#64)), .d (eI (0 : Int)), .nil 5]), (256, .var .mine [.d (eU64 v26), .d (eI v27), .d ((eL 5 eTApiChallenge) v28)]), (3905, .row true 1 (v12.map (eL 1 eU8))), (7232, .row true 1 (v29.map eB))]) (ok (alc (zs := [.d (eU64 (0#64)), .d (eI (0 : Int)), .nil 5]))) rfl (by kernel_rfl) ?_
              refine dr1 18752 rfl (mem' := [(18688, .var .mine [.d (eI (0 : Int)), .d (eI (0 : Int)), .d (eS ([] : List (BitVec 8))), .d (eB false), .d (eI (0 : Int))]), (18624, .var .mine [.d (eU64 (0#64)), .d (eI (0 : Int)), .nil 5]), (256, .var .mine [.d (eU64 v26), .d (eI v27), .d ((eL 5 eTApiChallenge) v28)]), (3905, .row true 1 (v12.map (eL 1 eU8))), (7232, .row true 1 (v29.map eB))]) (ok (alc (zs := [.d (eI (0 : Int)), .d (eI (0 : Int)), .d (eS ([] : List (BitVec 8))), .d (eB false), .d (eI (0 : Int))]))) rfl (by kernel_rfl) ?_
              refine drn 18816 rfl (mem' := [(18624, .var .mine [.d (eU64 y52.1.Secret), .d (eI y52.1.Count), .d ((eL 5 eTApiChallenge) y52.1.Open)]), (18688, .var .mine [.d (eI (0 : Int)), .d (eI (0 : Int)), .d (eS ([] : List (BitVec 8))), .d (eB false), .d (eI (0 : Int))]), (256, .var .mine [.d (eU64 v26), .d (eI v27), .d ((eL 5 eTApiChallenge) v28)]), (3905, .row true 1 (v12.map (eL 1 eU8))), (7232, .row true 1 (v29.map eB))]) (ok (sto_v (ps' := [.d (eU64 y52.1.Secret), .d (eI y52.1.Count), .d ((eL 5 eTApiChallenge) y52.1.Open)]) rfl rfl rfl rfl)) rfl (by kernel_rfl) ?_
              refine drn 18880 rfl (mem' := [(18688, .var .mine [.d (eI y52.2.1.Number), .d (eI y52.2.1.Kind), .d (eS y52.2.1.Account), .d (eB y52.2.1.Bound), .d (eI y52.2.1.Since)]), (18624, .var .mine [.d (eU64 y52.1.Secret), .d (eI y52.1.Count), .d ((eL 5 eTApiChallenge) y52.1.Open)]), (256, .var .mine [.d (eU64 v26), .d (eI v27), .d ((eL 5 eTApiChallenge) v28)]), (3905, .row true 1 (v12.map (eL 1 eU8))), (7232, .row true 1 (v29.map eB))]) (ok (sto_v (ps' := [.d (eI y52.2.1.Number), .d (eI y52.2.1.Kind), .d (eS y52.2.1.Account), .d (eB y52.2.1.Bound), .d (eI y52.2.1.Since)]) rfl rfl rfl rfl)) rfl (by kernel_rfl) ?_
              refine dr0 18944 rfl (ok (mv (.d (eI y52.2.2)))) (by kernel_rfl) ?_
              refine hK50 _ _ ?_
              simp only [thenK, blockK, keepE, updM, List.filter_cons, List.filter_nil, List.nil_append, List.cons_append, List.map_cons, List.map_nil, envE, Mem.get, Nat.reduceEqDiff, reduceIte, Option.isNone_none, Option.isNone_some, Bool.false_eq_true, List.length_cons, List.length_nil, Nat.reduceAdd, Nat.reduceMul]
              refine hK49 _ _ _ ?_
              refine rwp_join ([], []) 20416 (fun env mem => ∃ (v54 : Bool), passkeylaw29ChallengeOnceJ6 (passkeylaw29ChallengeOnceL4 a1 a2 a3 v12 k4) a1 v29 v30 v42 y52 v54 = some res ∧ env = [(1, .d ((eL 1 eU8) a1)), (2, .d ((eL 1 eU8) a2)), (3, .d (eU8 a3)), (9, .ptr 256 0), (10, .ref 3905 v12.length 0 v12.length), (17, .ref 7232 v29.length 0 v29.length), (18, .d (eI v30)), (19, .d (eI v42)), (21, .ptr 18624 0), (22, .ptr 18688 0), (23, .d (eI y52.2.2)), (24, .d (eB v54))] ∧ mem = [(256, .var .mine [.d (eU64 v26), .d (eI v27), .d ((eL 5 eTApiChallenge) v28)]), (3905, .row true 1 (v12.map (eL 1 eU8))), (7232, .row true 1 (v29.map eB)), (18624, .var .mine [.d (eU64 y52.1.Secret), .d (eI y52.1.Count), .d ((eL 5 eTApiChallenge) y52.1.Open)]), (18688, .var .mine [.d (eI y52.2.1.Number), .d (eI y52.2.1.Kind), .d (eS y52.2.1.Account), .d (eB y52.2.1.Bound), .d (eI y52.2.1.Since)])]) (fun _ _ hI => ?_) (fun K55 hK55 => ?_)
              · obtain ⟨v54, h, rfl, rfl⟩ := hI
                unfold passkeylaw29ChallengeOnceJ6 at h
                refine rwp_seq fun K56 hK56 => ?_
                refine rwp_join ([], []) 22848 (fun env mem => ∃ (v57 : Bool), passkeylaw29ChallengeOnceJ7 (passkeylaw29ChallengeOnceL4 a1 a2 a3 v12 k4) v29 v30 v42 y52 v54 v57 = some res ∧ env = [(1, .d ((eL 1 eU8) a1)), (2, .d ((eL 1 eU8) a2)), (3, .d (eU8 a3)), (9, .ptr 256 0), (10, .ref 3905 v12.length 0 v12.length), (17, .ref 7232 v29.length 0 v29.length), (18, .d (eI v30)), (19, .d (eI v42)), (21, .ptr 18624 0), (24, .d (eB v54)), (196, .d (eB v57))] ∧ mem = [(256, .var .mine [.d (eU64 v26), .d (eI v27), .d ((eL 5 eTApiChallenge) v28)]), (3905, .row true 1 (v12.map (eL 1 eU8))), (7232, .row true 1 (v29.map eB)), (18624, .var .mine [.d (eU64 y52.1.Secret), .d (eI y52.1.Count), .d ((eL 5 eTApiChallenge) y52.1.Open)])]) (fun _ _ hI => ?_) (fun K58 hK58 => ?_)
                · obtain ⟨v57, h, rfl, rfl⟩ := hI
                  unfold passkeylaw29ChallengeOnceJ7 at h
                  rcases Bool.eq_false_or_eq_true (v57) with h59 | h59
                  · replace h := ite_t h h59
                    refine rwp_t (isT h59) ?_
                    refine rwp_seq fun K60 hK60 => ?_
                    refine rwp_region fun K61 hK61 => ?_
                    refine st0 22912 rfl (ok (mv (.d (eB false)))) ?_
                    refine hK61 _ _ ?_
                    simp only [thenK, blockK, keepE, updM, List.filter_cons, List.filter_nil, List.nil_append, List.cons_append, List.map_cons, List.map_nil, envE, Mem.get, Nat.reduceEqDiff, reduceIte, Option.isNone_none, Option.isNone_some, Bool.false_eq_true, List.length_cons, List.length_nil, Nat.reduceAdd, Nat.reduceMul]
                    refine hK60 _ _ _ ?_
                    refine rwp_ret ?_
                    obtain rfl := Option.some.inj h
                    try simp only [thenK, blockK, reduceIte]
                    exact Or.inl (end_ok trivial (rs_t (v := .d (eB false)) rfl rs_nil) (en_d (to_d _) en_nil) ou_nil (by first | exact eok rfl rfl rfl rfl trivial | (refine eok ?_ ?_ ?_ ?_ ?_ <;> first | rfl | exact trivial | simp [retM, Mem.get, PV.renL, PV.ren, Blk.ren, comps, rhoR, rhoM, appN, PV.refsL, PV.refs, keys, nodupB, Blk.refs, allIn, Blk.bor])))
                  · replace h := ite_f h h59
                    refine rwp_f (isF h59) ?_
                    refine rwp_skip ?_
                    refine hK56 _ _ _ ?_
                    refine rwp_join ([], []) 23616 (fun env mem => ∃ (v62 : List (Bool)), passkeylaw29ChallengeOnceJ8 (passkeylaw29ChallengeOnceL4 a1 a2 a3 v12 k4) v30 y52 v62 = some res ∧ env = [(1, .d ((eL 1 eU8) a1)), (2, .d ((eL 1 eU8) a2)), (3, .d (eU8 a3)), (9, .ptr 256 0), (10, .ref 3905 v12.length 0 v12.length), (17, .ref 7232 v62.length 0 v62.length), (18, .d (eI v30)), (21, .ptr 18624 0)] ∧ mem = [(256, .var .mine [.d (eU64 v26), .d (eI v27), .d ((eL 5 eTApiChallenge) v28)]), (3905, .row true 1 (v12.map (eL 1 eU8))), (7232, .row true 1 (v62.map eB)), (18624, .var .mine [.d (eU64 y52.1.Secret), .d (eI y52.1.Count), .d ((eL 5 eTApiChallenge) y52.1.Open)])]) (fun _ _ hI => ?_) (fun K63 hK63 => ?_)
                    · obtain ⟨v62, h, rfl, rfl⟩ := hI
                      unfold passkeylaw29ChallengeOnceJ8 at h
                      refine rwp_region fun K64 hK64 => ?_
                      refine st0 23680 rfl (ok (ld_v (v := .d (.agg [eU64 y52.1.Secret, eI y52.1.Count, (eL 5 eTApiChallenge) y52.1.Open])) rfl rfl rfl)) ?_
                      refine stn 23744 rfl (mem' := [(256, .var .mine [.d (eU64 y52.1.Secret), .d (eI y52.1.Count), .d ((eL 5 eTApiChallenge) y52.1.Open)]), (3905, .row true 1 (v12.map (eL 1 eU8))), (7232, .row true 1 (v62.map eB)), (18624, .var .mine [.d (eU64 y52.1.Secret), .d (eI y52.1.Count), .d ((eL 5 eTApiChallenge) y52.1.Open)])]) (ok (sto_v (ps' := [.d (eU64 y52.1.Secret), .d (eI y52.1.Count), .d ((eL 5 eTApiChallenge) y52.1.Open)]) rfl rfl rfl rfl)) rfl ?_
                      refine hK64 _ _ ?_
                      simp only [thenK, blockK, keepE, updM, List.filter_cons, List.filter_nil, List.nil_append, List.cons_append, List.map_cons, List.map_nil, envE, Mem.get, Nat.reduceEqDiff, reduceIte, Option.isNone_none, Option.isNone_some, Bool.false_eq_true, List.length_cons, List.length_nil, Nat.reduceAdd, Nat.reduceMul]
                      refine hK37 _ _ _ ?_
                      refine hK36 _ _ _ ?_
                      refine rwp_region fun K65 hK65 => ?_
                      refine st0 23808 rfl (ok (mv (.d (eI v30)))) ?_
                      refine st0 23872 rfl (ok (addI _ (1 : Int))) ?_
                      refine st0 23936 rfl (ok (mv (.d (eI (w64 (v30 + (1 : Int))))))) ?_
                      refine hK65 _ _ ?_
                      simp only [thenK, blockK, keepE, updM, List.filter_cons, List.filter_nil, List.nil_append, List.cons_append, List.map_cons, List.map_nil, envE, Mem.get, Nat.reduceEqDiff, reduceIte, Option.isNone_none, Option.isNone_some, Bool.false_eq_true, List.length_cons, List.length_nil, Nat.reduceAdd, Nat.reduceMul]
                      exact hK31.out _ _ _ k4 (Nat.lt_succ_self k4) ⟨_, _, Settled.refl, _, _, ⟨_, _, _, _, _, h, rfl, rfl⟩, ⟨rfl, ⟨⟨rfl, rfl⟩, ⟨⟨rfl, rfl⟩, ⟨⟨rfl, rfl⟩, ⟨⟨rfl, rfl⟩, ⟨⟨rfl, rfl⟩, ⟨⟨rfl, rfl⟩, ⟨⟨rfl, rfl⟩, trivial⟩⟩⟩⟩⟩⟩⟩, ⟨⟨rfl, rfl⟩, ⟨⟨rfl, rfl⟩, ⟨⟨rfl, rfl⟩, trivial⟩⟩⟩⟩, rfl⟩
                    · refine rwp_region fun K66 hK66 => ?_
                      refine st0 22912 rfl (ok (mv (.ref 7232 v29.length 0 v29.length))) ?_
                      refine st0 22976 rfl (ok (mv (.d (eI v42)))) ?_
                      refine st0 23040 rfl (ok (mv (.ref 7232 v29.length 0 v29.length))) ?_
                      refine st0 23104 rfl (ok (mv (.d (eI v42)))) ?_
                      obtain ⟨h67, h⟩ := asq_inv h
                      refine st0 23168 rfl (ok (iaR (xs := v29) (e := eB) rfl rfl h67)) ?_
                      refine st0 23232 rfl (ok (ld_r (e := eB) (xs := v29) false rfl rfl (by have := h67; simp at this ⊢; omega) rfl)) ?_
                      refine st0 23296 rfl (ok (mv (.d (eB (v29.getD (0 + v42.toNat) false))))) ?_
                      rcases Bool.eq_false_or_eq_true ((v29.getD (0 + v42.toNat) false)) with h68 | h68
                      · replace h := ite_t h h68
                        refine stGN 23360 rfl rfl h68 ?_
                        refine st0 23424 rfl (ok (pick_t h68 (.d (eB true)) _)) ?_
                        obtain ⟨h69, h⟩ := asq_inv h
                        refine st0 23488 rfl (ok (iaR (xs := v29) (e := eB) rfl rfl h69)) ?_
                        refine stn 23552 rfl (mem' := [(7232, .row true 1 ((v29.set (0 + v42.toNat) true).map eB)), (256, .var .mine [.d (eU64 v26), .d (eI v27), .d ((eL 5 eTApiChallenge) v28)]), (3905, .row true 1 (v12.map (eL 1 eU8))), (18624, .var .mine [.d (eU64 y52.1.Secret), .d (eI y52.1.Count), .d ((eL 5 eTApiChallenge) y52.1.Open)])]) (ok (sto_r (e := eB) (xs := v29) (y := true) rfl rfl rfl)) rfl ?_
                        refine hK66 _ _ ?_
                        simp only [thenK, blockK, keepE, updM, List.filter_cons, List.filter_nil, List.nil_append, List.cons_append, List.map_cons, List.map_nil, envE, Mem.get, Nat.reduceEqDiff, reduceIte, Option.isNone_none, Option.isNone_some, Bool.false_eq_true, List.length_cons, List.length_nil, Nat.reduceAdd, Nat.reduceMul]
                        exact hK63 _ _ _ ⟨_, _, Settled.refl, _, _, ⟨_, h, rfl, rfl⟩, (by refine ⟨rfl, ⟨⟨?_, rfl⟩, ⟨⟨?_, rfl⟩, ⟨⟨?_, rfl⟩, ⟨⟨?_, rfl⟩, ⟨⟨?_, rfl⟩, ⟨⟨?_, rfl⟩, ⟨⟨?_, rfl⟩, ⟨⟨?_, rfl⟩, trivial⟩⟩⟩⟩⟩⟩⟩⟩, ⟨⟨?_, rfl⟩, ⟨⟨?_, rfl⟩, ⟨⟨?_, rfl⟩, ⟨⟨?_, rfl⟩, trivial⟩⟩⟩⟩⟩ <;> first | rfl | (exact refEq rfl (by simp) rfl (by simp)) | simp [envE, Mem.get, liftE, liftV, rhoOf, rhoE, rhoM, appN, PV.refs, PV.refsL, Blk.refs, PV.ren, PV.renL, Blk.ren]), rfl⟩
                      · replace h := ite_f h h68
                        refine stG (isF h68) ?_
                        refine st0 23360 rfl (ok (mv (.d (eB v54)))) ?_
                        refine st0 23424 rfl (ok (pick_f h68 _ (.d (eB v54)))) ?_
                        obtain ⟨h70, h⟩ := asq_inv h
                        refine st0 23488 rfl (ok (iaR (xs := v29) (e := eB) rfl rfl h70)) ?_
                        refine stn 23552 rfl (mem' := [(7232, .row true 1 ((v29.set (0 + v42.toNat) v54).map eB)), (256, .var .mine [.d (eU64 v26), .d (eI v27), .d ((eL 5 eTApiChallenge) v28)]), (3905, .row true 1 (v12.map (eL 1 eU8))), (18624, .var .mine [.d (eU64 y52.1.Secret), .d (eI y52.1.Count), .d ((eL 5 eTApiChallenge) y52.1.Open)])]) (ok (sto_r (e := eB) (xs := v29) (y := v54) rfl rfl rfl)) rfl ?_
                        refine hK66 _ _ ?_
                        simp only [thenK, blockK, keepE, updM, List.filter_cons, List.filter_nil, List.nil_append, List.cons_append, List.map_cons, List.map_nil, envE, Mem.get, Nat.reduceEqDiff, reduceIte, Option.isNone_none, Option.isNone_some, Bool.false_eq_true, List.length_cons, List.length_nil, Nat.reduceAdd, Nat.reduceMul]
                        exact hK63 _ _ _ ⟨_, _, Settled.refl, _, _, ⟨_, h, rfl, rfl⟩, (by refine ⟨rfl, ⟨⟨?_, rfl⟩, ⟨⟨?_, rfl⟩, ⟨⟨?_, rfl⟩, ⟨⟨?_, rfl⟩, ⟨⟨?_, rfl⟩, ⟨⟨?_, rfl⟩, ⟨⟨?_, rfl⟩, ⟨⟨?_, rfl⟩, trivial⟩⟩⟩⟩⟩⟩⟩⟩, ⟨⟨?_, rfl⟩, ⟨⟨?_, rfl⟩, ⟨⟨?_, rfl⟩, ⟨⟨?_, rfl⟩, trivial⟩⟩⟩⟩⟩ <;> first | rfl | (exact refEq rfl (by simp) rfl (by simp)) | simp [envE, Mem.get, liftE, liftV, rhoOf, rhoE, rhoM, appN, PV.refs, PV.refsL, Blk.refs, PV.ren, PV.renL, Blk.ren]), rfl⟩
                · refine rwp_draw fun K71 hK71 => ?_
                  refine dr0 20480 rfl (ok (mv (.d (eI y52.2.2)))) (by kernel_rfl) ?_
                  refine dr0 20544 rfl (ok (eqlI _ (0 : Int))) (by kernel_rfl) ?_
                  refine dr0 20608 rfl (ok (mv (.d (eB v54)))) (by kernel_rfl) ?_
                  refine dr0 20672 rfl (ok (neqB _ _)) (by kernel_rfl) ?_
                  refine dr0 20736 rfl (ok (mv (.d (eB (!((y52.2.2 == (0 : Int)) == v54)))))) (by kernel_rfl) ?_
                  rcases Bool.eq_false_or_eq_true ((!((y52.2.2 == (0 : Int)) == v54))) with h72 | h72
                  · replace h := ite_t h h72
                    refine drGN 20800 rfl rfl h72 ?_
                    refine drGN 20864 rfl rfl h72 ?_
                    refine drGN 20928 rfl rfl h72 ?_
                    refine drGS 20992 rfl rfl ?_
                    refine drGS 21056 rfl rfl ?_
                    refine drGS 21120 rfl rfl ?_
                    refine drGS 21184 rfl rfl ?_
                    refine drGS 21248 rfl rfl ?_
                    refine drGS 21312 rfl rfl ?_
                    refine drGS 21376 rfl rfl ?_
                    refine drGS 21440 rfl rfl ?_
                    refine drGS 21504 rfl rfl ?_
                    refine drGS 21568 rfl rfl ?_
                    refine drGS 21632 rfl rfl ?_
                    refine drGS 21696 rfl rfl ?_
                    refine drGS 21760 rfl rfl ?_
                    refine drGS 21824 rfl rfl ?_
                    refine drGS 21888 rfl rfl ?_
                    refine drGS 21952 rfl rfl ?_
                    refine drGS 22016 rfl rfl ?_
                    refine drGS 22080 rfl rfl ?_
                    refine drGS 22144 rfl rfl ?_
                    refine drGS 22208 rfl rfl ?_
                    refine drGS 22272 rfl rfl ?_
                    refine drGS 22336 rfl rfl ?_
                    refine drGS 22400 rfl rfl ?_
                    refine drGS 22464 rfl rfl ?_
                    refine drGS 22528 rfl rfl ?_
                    refine drGS 22592 rfl rfl ?_
                    refine drGS 22656 rfl rfl ?_
                    refine drGN 22720 rfl rfl h72 ?_
                    refine dr0 22784 rfl (ok (pick_t h72 (.d (eB true)) _)) (by kernel_rfl) ?_
                    refine hK71 _ _ ?_
                    simp only [thenK, blockK, keepE, updM, List.filter_cons, List.filter_nil, List.nil_append, List.cons_append, List.map_cons, List.map_nil, envE, Mem.get, Nat.reduceEqDiff, reduceIte, Option.isNone_none, Option.isNone_some, Bool.false_eq_true, List.length_cons, List.length_nil, Nat.reduceAdd, Nat.reduceMul]
                    exact hK58 _ _ _ ⟨_, _, Settled.refl, _, _, ⟨_, h, rfl, rfl⟩, ⟨rfl, ⟨⟨rfl, rfl⟩, ⟨⟨rfl, rfl⟩, ⟨⟨rfl, rfl⟩, ⟨⟨rfl, rfl⟩, ⟨⟨rfl, rfl⟩, ⟨⟨rfl, rfl⟩, ⟨⟨rfl, rfl⟩, ⟨⟨rfl, rfl⟩, ⟨⟨rfl, rfl⟩, ⟨⟨rfl, rfl⟩, ⟨⟨rfl, rfl⟩, trivial⟩⟩⟩⟩⟩⟩⟩⟩⟩⟩⟩, ⟨⟨rfl, rfl⟩, ⟨⟨rfl, rfl⟩, ⟨⟨rfl, rfl⟩, ⟨⟨rfl, rfl⟩, trivial⟩⟩⟩⟩⟩, rfl⟩
                  · replace h := ite_f h h72
                    refine drG (isF h72) ?_
                    refine dr0 20800 rfl (ok (mv (.d (eI y52.2.2)))) (by kernel_rfl) ?_
                    refine drG (isF h72) ?_
                    refine dr0 20864 rfl (ok (eqlI _ (0 : Int))) (by kernel_rfl) ?_
                    refine drG (isF h72) ?_
                    refine dr0 20928 rfl (ok (mv (.d (eB (y52.2.2 == (0 : Int)))))) (by kernel_rfl) ?_
                    rcases Bool.eq_false_or_eq_true ((y52.2.2 == (0 : Int))) with h73 | h73
                    · replace h := ite_t h h73
                      refine drG (isT h73) ?_
                      refine dr0 20992 rfl (ok (fa_k 0 rfl)) (by kernel_rfl) ?_
                      refine drG (isT h73) ?_
                      refine dr0 21056 rfl (ok (ld_v (v := .d (eI y52.2.1.Number)) rfl rfl rfl)) (by kernel_rfl) ?_
                      refine drG (isT h73) ?_
                      refine dr0 21120 rfl (ok (mv (.d (eI v42)))) (by kernel_rfl) ?_
                      refine drG (isT h73) ?_
                      refine dr0 21184 rfl (ok (neqI _ _)) (by kernel_rfl) ?_
                      refine drG (isT h73) ?_
                      refine dr0 21248 rfl (ok (mv (.d (eB (y52.2.1.Number != v42))))) (by kernel_rfl) ?_
                      rcases Bool.eq_false_or_eq_true ((y52.2.1.Number != v42)) with h74 | h74
                      · replace h := ite_t h h74
                        refine drGN 21312 rfl rfl h74 ?_
                        refine drGN 21376 rfl rfl h74 ?_
                        refine drGN 21440 rfl rfl h74 ?_
                        refine drGN 21504 rfl rfl h74 ?_
                        refine drGN 21568 rfl rfl h74 ?_
                        refine drGN 21632 rfl rfl h74 ?_
                        refine drGN 21696 rfl rfl h74 ?_
                        refine drGN 21760 rfl rfl h74 ?_
                        refine drGN 21824 rfl rfl h74 ?_
                        refine drGN 21888 rfl rfl h74 ?_
                        refine drG (isT h73) ?_
                        refine dr0 21952 rfl (ok (pick_t h74 (.d (eB true)) _)) (by kernel_rfl) ?_
                        refine drG (isT h73) ?_
                        refine dr0 22016 rfl (ok (mv (.d (eB true)))) (by kernel_rfl) ?_
                        refine drGN 22080 rfl rfl rfl ?_
                        refine drGN 22144 rfl rfl rfl ?_
                        refine drGN 22208 rfl rfl rfl ?_
                        refine drGN 22272 rfl rfl rfl ?_
                        refine drGN 22336 rfl rfl rfl ?_
                        refine drGN 22400 rfl rfl rfl ?_
                        refine drGN 22464 rfl rfl rfl ?_
                        refine drGN 22528 rfl rfl rfl ?_
                        refine drGN 22592 rfl rfl rfl ?_
                        refine drG (isT h73) ?_
                        refine dr0 22656 rfl (ok (pick_t rfl (.d (eB true)) _)) (by kernel_rfl) ?_
                        refine drG (isF h72) ?_
                        refine dr0 22720 rfl (ok (pick_t h73 (.d (eB true)) _)) (by kernel_rfl) ?_
                        refine dr0 22784 rfl (ok (pick_f h72 _ (.d (eB true)))) (by kernel_rfl) ?_
                        refine hK71 _ _ ?_
                        simp only [thenK, blockK, keepE, updM, List.filter_cons, List.filter_nil, List.nil_append, List.cons_append, List.map_cons, List.map_nil, envE, Mem.get, Nat.reduceEqDiff, reduceIte, Option.isNone_none, Option.isNone_some, Bool.false_eq_true, List.length_cons, List.length_nil, Nat.reduceAdd, Nat.reduceMul]
                        exact hK58 _ _ _ ⟨_, _, Settled.refl, _, _, ⟨_, h, rfl, rfl⟩, ⟨rfl, ⟨⟨rfl, rfl⟩, ⟨⟨rfl, rfl⟩, ⟨⟨rfl, rfl⟩, ⟨⟨rfl, rfl⟩, ⟨⟨rfl, rfl⟩, ⟨⟨rfl, rfl⟩, ⟨⟨rfl, rfl⟩, ⟨⟨rfl, rfl⟩, ⟨⟨rfl, rfl⟩, ⟨⟨rfl, rfl⟩, ⟨⟨rfl, rfl⟩, trivial⟩⟩⟩⟩⟩⟩⟩⟩⟩⟩⟩, ⟨⟨rfl, rfl⟩, ⟨⟨rfl, rfl⟩, ⟨⟨rfl, rfl⟩, ⟨⟨rfl, rfl⟩, trivial⟩⟩⟩⟩⟩, rfl⟩
                      · replace h := ite_f h h74
                        refine drG (isF h74) ?_
                        refine dr0 21312 rfl (ok (fa_k 2 rfl)) (by kernel_rfl) ?_
                        refine drG (isF h74) ?_
                        refine dr0 21376 rfl (ok (ld_v (v := .d (eS y52.2.1.Account)) rfl rfl rfl)) (by kernel_rfl) ?_
                        refine drG (isF h74) ?_
                        refine dr0 21440 rfl (ok (mv (.d ((eL 1 eU8) a1)))) (by kernel_rfl) ?_
                        refine drG (isF h74) ?_
                        refine dr0 21504 rfl (ok (mv (.d (eI v42)))) (by kernel_rfl) ?_
                        refine drG (isF h74) ?_
                        obtain ⟨h75, h⟩ := asq_inv h
                        refine dr0 21568 rfl (ok (iaL (e := eU8) (xs := a1) 0#8 h75)) (by kernel_rfl) ?_
                        refine drG (isF h74) ?_
                        refine dr0 21632 rfl (ok (ld_i (v := eU8 (a1.getD v42.toNat 0#8)) rfl rfl)) (by kernel_rfl) ?_
                        refine drG (isF h74) ?_
                        refine dr0 21696 rfl (ok (toI8 _)) (by kernel_rfl) ?_
                        refine drG (isF h74) ?_
                        refine dr0 21760 rfl (ok (remI _ (3 : Int) (by decide))) (by kernel_rfl) ?_
                        refine drG (isF h74) ?_
                        obtain ⟨y76, h77, h⟩ := bind_inv h
                        refine dr0 21824 rfl (call_ok (v := .d (eS y76)) (u := []) (ar_d (eI (((a1.getD v42.toNat 0#8).toNat : Int).tmod (3 : Int))) ar_nil) rfl (passkeycastNameOK (((a1.getD v42.toNat 0#8).toNat : Int).tmod (3 : Int)) y76 h77) rfl) (by kernel_rfl) ?_
                        refine drG (isF h74) ?_
                        refine dr0 21888 rfl (ok (neqS y52.2.1.Account y76)) (by kernel_rfl) ?_
                        refine drG (isT h73) ?_
                        refine dr0 21952 rfl (ok (pick_f h74 _ (.d (eB (!(y52.2.1.Account == y76)))))) (by kernel_rfl) ?_
                        refine drG (isT h73) ?_
                        refine dr0 22016 rfl (ok (mv (.d (eB (!(y52.2.1.Account == y76)))))) (by kernel_rfl) ?_
                        rcases Bool.eq_false_or_eq_true ((!(y52.2.1.Account == y76))) with h78 | h78
                        · replace h := ite_t h h78
                          refine drGN 22080 rfl rfl h78 ?_
                          refine drGN 22144 rfl rfl h78 ?_
                          refine drGN 22208 rfl rfl h78 ?_
                          refine drGN 22272 rfl rfl h78 ?_
                          refine drGN 22336 rfl rfl h78 ?_
                          refine drGN 22400 rfl rfl h78 ?_
                          refine drGN 22464 rfl rfl h78 ?_
                          refine drGN 22528 rfl rfl h78 ?_
                          refine drGN 22592 rfl rfl h78 ?_
                          refine drG (isT h73) ?_
                          refine dr0 22656 rfl (ok (pick_t h78 (.d (eB true)) _)) (by kernel_rfl) ?_
                          refine drG (isF h72) ?_
                          refine dr0 22720 rfl (ok (pick_t h73 (.d (eB true)) _)) (by kernel_rfl) ?_
                          refine dr0 22784 rfl (ok (pick_f h72 _ (.d (eB true)))) (by kernel_rfl) ?_
                          refine hK71 _ _ ?_
                          simp only [thenK, blockK, keepE, updM, List.filter_cons, List.filter_nil, List.nil_append, List.cons_append, List.map_cons, List.map_nil, envE, Mem.get, Nat.reduceEqDiff, reduceIte, Option.isNone_none, Option.isNone_some, Bool.false_eq_true, List.length_cons, List.length_nil, Nat.reduceAdd, Nat.reduceMul]
                          exact hK58 _ _ _ ⟨_, _, Settled.refl, _, _, ⟨_, h, rfl, rfl⟩, ⟨rfl, ⟨⟨rfl, rfl⟩, ⟨⟨rfl, rfl⟩, ⟨⟨rfl, rfl⟩, ⟨⟨rfl, rfl⟩, ⟨⟨rfl, rfl⟩, ⟨⟨rfl, rfl⟩, ⟨⟨rfl, rfl⟩, ⟨⟨rfl, rfl⟩, ⟨⟨rfl, rfl⟩, ⟨⟨rfl, rfl⟩, ⟨⟨rfl, rfl⟩, trivial⟩⟩⟩⟩⟩⟩⟩⟩⟩⟩⟩, ⟨⟨rfl, rfl⟩, ⟨⟨rfl, rfl⟩, ⟨⟨rfl, rfl⟩, ⟨⟨rfl, rfl⟩, trivial⟩⟩⟩⟩⟩, rfl⟩
                        · replace h := ite_f h h78
                          refine drG (isF h78) ?_
                          refine dr0 22080 rfl (ok (fa_k 3 rfl)) (by kernel_rfl) ?_
                          refine drG (isF h78) ?_
                          refine dr0 22144 rfl (ok (ld_v (v := .d (eB y52.2.1.Bound)) rfl rfl rfl)) (by kernel_rfl) ?_
                          refine drG (isF h78) ?_
                          refine dr0 22208 rfl (ok (mv (.d ((eL 1 eU8) a1)))) (by kernel_rfl) ?_
                          refine drG (isF h78) ?_
                          refine dr0 22272 rfl (ok (mv (.d (eI v42)))) (by kernel_rfl) ?_
                          refine drG (isF h78) ?_
                          obtain ⟨h79, h⟩ := asq_inv h
                          refine dr0 22336 rfl (ok (iaL (e := eU8) (xs := a1) 0#8 h79)) (by kernel_rfl) ?_
                          refine drG (isF h78) ?_
                          refine dr0 22400 rfl (ok (ld_i (v := eU8 (a1.getD v42.toNat 0#8)) rfl rfl)) (by kernel_rfl) ?_
                          refine drG (isF h78) ?_
                          refine dr0 22464 rfl (ok (and8 _ (8#8))) (by kernel_rfl) ?_
                          refine drG (isF h78) ?_
                          refine dr0 22528 rfl (ok (eql8 _ (8#8))) (by kernel_rfl) ?_
                          refine drG (isF h78) ?_
                          refine dr0 22592 rfl (ok (neqB _ _)) (by kernel_rfl) ?_
                          refine drG (isT h73) ?_
                          refine dr0 22656 rfl (ok (pick_f h78 _ (.d (eB (!(y52.2.1.Bound == (((a1.getD v42.toNat 0#8) &&& (8#8)) == (8#8)))))))) (by kernel_rfl) ?_
                          refine drG (isF h72) ?_
                          refine dr0 22720 rfl (ok (pick_t h73 (.d (eB (!(y52.2.1.Bound == (((a1.getD v42.toNat 0#8) &&& (8#8)) == (8#8)))))) _)) (by kernel_rfl) ?_
                          refine dr0 22784 rfl (ok (pick_f h72 _ (.d (eB (!(y52.2.1.Bound == (((a1.getD v42.toNat 0#8) &&& (8#8)) == (8#8)))))))) (by kernel_rfl) ?_
                          refine hK71 _ _ ?_
                          simp only [thenK, blockK, keepE, updM, List.filter_cons, List.filter_nil, List.nil_append, List.cons_append, List.map_cons, List.map_nil, envE, Mem.get, Nat.reduceEqDiff, reduceIte, Option.isNone_none, Option.isNone_some, Bool.false_eq_true, List.length_cons, List.length_nil, Nat.reduceAdd, Nat.reduceMul]
                          exact hK58 _ _ _ ⟨_, _, Settled.refl, _, _, ⟨_, h, rfl, rfl⟩, ⟨rfl, ⟨⟨rfl, rfl⟩, ⟨⟨rfl, rfl⟩, ⟨⟨rfl, rfl⟩, ⟨⟨rfl, rfl⟩, ⟨⟨rfl, rfl⟩, ⟨⟨rfl, rfl⟩, ⟨⟨rfl, rfl⟩, ⟨⟨rfl, rfl⟩, ⟨⟨rfl, rfl⟩, ⟨⟨rfl, rfl⟩, ⟨⟨rfl, rfl⟩, trivial⟩⟩⟩⟩⟩⟩⟩⟩⟩⟩⟩, ⟨⟨rfl, rfl⟩, ⟨⟨rfl, rfl⟩, ⟨⟨rfl, rfl⟩, ⟨⟨rfl, rfl⟩, trivial⟩⟩⟩⟩⟩, rfl⟩
                    · replace h := ite_f h h73
                      refine drGN 20992 rfl rfl h73 ?_
                      refine drGN 21056 rfl rfl h73 ?_
                      refine drGN 21120 rfl rfl h73 ?_
                      refine drGN 21184 rfl rfl h73 ?_
                      refine drGN 21248 rfl rfl h73 ?_
                      refine drGS 21312 rfl rfl ?_
                      refine drGS 21376 rfl rfl ?_
                      refine drGS 21440 rfl rfl ?_
                      refine drGS 21504 rfl rfl ?_
                      refine drGS 21568 rfl rfl ?_
                      refine drGS 21632 rfl rfl ?_
                      refine drGS 21696 rfl rfl ?_
                      refine drGS 21760 rfl rfl ?_
                      refine drGS 21824 rfl rfl ?_
                      refine drGS 21888 rfl rfl ?_
                      refine drGN 21952 rfl rfl h73 ?_
                      refine drGN 22016 rfl rfl h73 ?_
                      refine drGS 22080 rfl rfl ?_
                      refine drGS 22144 rfl rfl ?_
                      refine drGS 22208 rfl rfl ?_
                      refine drGS 22272 rfl rfl ?_
                      refine drGS 22336 rfl rfl ?_
                      refine drGS 22400 rfl rfl ?_
                      refine drGS 22464 rfl rfl ?_
                      refine drGS 22528 rfl rfl ?_
                      refine drGS 22592 rfl rfl ?_
                      refine drGN 22656 rfl rfl h73 ?_
                      refine drG (isF h72) ?_
                      refine dr0 22720 rfl (ok (pick_f h73 _ (.d (eB false)))) (by kernel_rfl) ?_
                      refine dr0 22784 rfl (ok (pick_f h72 _ (.d (eB false)))) (by kernel_rfl) ?_
                      refine hK71 _ _ ?_
                      simp only [thenK, blockK, keepE, updM, List.filter_cons, List.filter_nil, List.nil_append, List.cons_append, List.map_cons, List.map_nil, envE, Mem.get, Nat.reduceEqDiff, reduceIte, Option.isNone_none, Option.isNone_some, Bool.false_eq_true, List.length_cons, List.length_nil, Nat.reduceAdd, Nat.reduceMul]
                      exact hK58 _ _ _ ⟨_, _, Settled.refl, _, _, ⟨_, h, rfl, rfl⟩, ⟨rfl, ⟨⟨rfl, rfl⟩, ⟨⟨rfl, rfl⟩, ⟨⟨rfl, rfl⟩, ⟨⟨rfl, rfl⟩, ⟨⟨rfl, rfl⟩, ⟨⟨rfl, rfl⟩, ⟨⟨rfl, rfl⟩, ⟨⟨rfl, rfl⟩, ⟨⟨rfl, rfl⟩, ⟨⟨rfl, rfl⟩, ⟨⟨rfl, rfl⟩, trivial⟩⟩⟩⟩⟩⟩⟩⟩⟩⟩⟩, ⟨⟨rfl, rfl⟩, ⟨⟨rfl, rfl⟩, ⟨⟨rfl, rfl⟩, ⟨⟨rfl, rfl⟩, trivial⟩⟩⟩⟩⟩, rfl⟩
              · refine rwp_region fun K80 hK80 => ?_
                refine st0 19008 rfl (ok (mv (.ref 7232 v29.length 0 v29.length))) ?_
                refine st0 19072 rfl (ok (mv (.d (eI v42)))) ?_
                obtain ⟨h81, h⟩ := asq_inv h
                refine st0 19136 rfl (ok (iaR (xs := v29) (e := eB) rfl rfl h81)) ?_
                refine st0 19200 rfl (ok (ld_r (e := eB) (xs := v29) false rfl rfl (by have := h81; simp at this ⊢; omega) rfl)) ?_
                refine st0 19264 rfl (ok (notB _)) ?_
                refine st0 19328 rfl (ok (mv (.d (eB (!(v29.getD (0 + v42.toNat) false)))))) ?_
                rcases Bool.eq_false_or_eq_true ((!(v29.getD (0 + v42.toNat) false))) with h82 | h82
                · replace h := ite_t h h82
                  refine stG (isT h82) ?_
                  refine st0 19392 rfl (ok (mv (.d (eI v47)))) ?_
                  refine stG (isT h82) ?_
                  refine st0 19456 rfl (ok (mv (.d ((eL 1 eU8) a1)))) ?_
                  refine stG (isT h82) ?_
                  refine st0 19520 rfl (ok (mv (.d (eI v42)))) ?_
                  refine stG (isT h82) ?_
                  obtain ⟨h83, h⟩ := asq_inv h
                  refine st0 19584 rfl (ok (iaL (e := eU8) (xs := a1) 0#8 h83)) ?_
                  refine stG (isT h82) ?_
                  refine st0 19648 rfl (ok (ld_i (v := eU8 (a1.getD v42.toNat 0#8)) rfl rfl)) ?_
                  refine stG (isT h82) ?_
                  refine st0 19712 rfl (ok (and8 _ (1#8))) ?_
                  refine stG (isT h82) ?_
                  refine st0 19776 rfl (ok (toI8 _)) ?_
                  refine stG (isT h82) ?_
                  obtain ⟨v84, h85, h⟩ := lett_inv h
                  refine st0e 19840 rfl (ok (addI (1 : Int) _)) (congrArg (fun z => PV.d (eI z)) h85) ?_
                  refine stG (isT h82) ?_
                  refine st0 19904 rfl (ok (eqlI _ _)) ?_
                  refine st0 19968 rfl (ok (pick_t h82 (.d (eB (v47 == v84))) _)) ?_
                  refine st0 20032 rfl (ok (mv (.d (eB (v47 == v84))))) ?_
                  rcases Bool.eq_false_or_eq_true ((v47 == v84)) with h86 | h86
                  · replace h := ite_t h h86
                    refine stG (isT h86) ?_
                    refine st0 20096 rfl (ok (mv (.d (eU8 a3)))) ?_
                    refine stG (isT h86) ?_
                    refine st0 20160 rfl (ok (toI8 _)) ?_
                    refine stG (isT h86) ?_
                    refine st0 20224 rfl (ok (leqI _ (60 : Int))) ?_
                    refine st0 20288 rfl (ok (pick_t h86 (.d (eB (decide ((a3.toNat : Int) ≤ (60 : Int))))) _)) ?_
                    refine st0 20352 rfl (ok (mv (.d (eB (decide ((a3.toNat : Int) ≤ (60 : Int))))))) ?_
                    refine hK80 _ _ ?_
                    simp only [thenK, blockK, keepE, updM, List.filter_cons, List.filter_nil, List.nil_append, List.cons_append, List.map_cons, List.map_nil, envE, Mem.get, Nat.reduceEqDiff, reduceIte, Option.isNone_none, Option.isNone_some, Bool.false_eq_true, List.length_cons, List.length_nil, Nat.reduceAdd, Nat.reduceMul]
                    exact hK55 _ _ _ ⟨_, _, Settled.refl, _, _, ⟨_, h, rfl, rfl⟩, ⟨rfl, ⟨⟨rfl, rfl⟩, ⟨⟨rfl, rfl⟩, ⟨⟨rfl, rfl⟩, ⟨⟨rfl, rfl⟩, ⟨⟨rfl, rfl⟩, ⟨⟨rfl, rfl⟩, ⟨⟨rfl, rfl⟩, ⟨⟨rfl, rfl⟩, ⟨⟨rfl, rfl⟩, ⟨⟨rfl, rfl⟩, ⟨⟨rfl, rfl⟩, ⟨⟨rfl, rfl⟩, trivial⟩⟩⟩⟩⟩⟩⟩⟩⟩⟩⟩⟩, ⟨⟨rfl, rfl⟩, ⟨⟨rfl, rfl⟩, ⟨⟨rfl, rfl⟩, ⟨⟨rfl, rfl⟩, ⟨⟨rfl, rfl⟩, trivial⟩⟩⟩⟩⟩⟩, rfl⟩
                  · replace h := ite_f h h86
                    refine stGN 20096 rfl rfl h86 ?_
                    refine stGN 20160 rfl rfl h86 ?_
                    refine stGN 20224 rfl rfl h86 ?_
                    refine st0 20288 rfl (ok (pick_f h86 _ (.d (eB false)))) ?_
                    refine st0 20352 rfl (ok (mv (.d (eB false)))) ?_
                    refine hK80 _ _ ?_
                    simp only [thenK, blockK, keepE, updM, List.filter_cons, List.filter_nil, List.nil_append, List.cons_append, List.map_cons, List.map_nil, envE, Mem.get, Nat.reduceEqDiff, reduceIte, Option.isNone_none, Option.isNone_some, Bool.false_eq_true, List.length_cons, List.length_nil, Nat.reduceAdd, Nat.reduceMul]
                    exact hK55 _ _ _ ⟨_, _, Settled.refl, _, _, ⟨_, h, rfl, rfl⟩, ⟨rfl, ⟨⟨rfl, rfl⟩, ⟨⟨rfl, rfl⟩, ⟨⟨rfl, rfl⟩, ⟨⟨rfl, rfl⟩, ⟨⟨rfl, rfl⟩, ⟨⟨rfl, rfl⟩, ⟨⟨rfl, rfl⟩, ⟨⟨rfl, rfl⟩, ⟨⟨rfl, rfl⟩, ⟨⟨rfl, rfl⟩, ⟨⟨rfl, rfl⟩, ⟨⟨rfl, rfl⟩, trivial⟩⟩⟩⟩⟩⟩⟩⟩⟩⟩⟩⟩, ⟨⟨rfl, rfl⟩, ⟨⟨rfl, rfl⟩, ⟨⟨rfl, rfl⟩, ⟨⟨rfl, rfl⟩, ⟨⟨rfl, rfl⟩, trivial⟩⟩⟩⟩⟩⟩, rfl⟩
                · replace h := ite_f h h82
                  refine stGN 19392 rfl rfl h82 ?_
                  refine stGN 19456 rfl rfl h82 ?_
                  refine stGN 19520 rfl rfl h82 ?_
                  refine stGN 19584 rfl rfl h82 ?_
                  refine stGN 19648 rfl rfl h82 ?_
                  refine stGN 19712 rfl rfl h82 ?_
                  refine stGN 19776 rfl rfl h82 ?_
                  refine stGN 19840 rfl rfl h82 ?_
                  refine stGN 19904 rfl rfl h82 ?_
                  refine st0 19968 rfl (ok (pick_f h82 _ (.d (eB false)))) ?_
                  refine st0 20032 rfl (ok (mv (.d (eB false)))) ?_
                  refine stGN 20096 rfl rfl rfl ?_
                  refine stGN 20160 rfl rfl rfl ?_
                  refine stGN 20224 rfl rfl rfl ?_
                  refine st0 20288 rfl (ok (pick_f rfl _ (.d (eB false)))) ?_
                  refine st0 20352 rfl (ok (mv (.d (eB false)))) ?_
                  refine hK80 _ _ ?_
                  simp only [thenK, blockK, keepE, updM, List.filter_cons, List.filter_nil, List.nil_append, List.cons_append, List.map_cons, List.map_nil, envE, Mem.get, Nat.reduceEqDiff, reduceIte, Option.isNone_none, Option.isNone_some, Bool.false_eq_true, List.length_cons, List.length_nil, Nat.reduceAdd, Nat.reduceMul]
                  exact hK55 _ _ _ ⟨_, _, Settled.refl, _, _, ⟨_, h, rfl, rfl⟩, ⟨rfl, ⟨⟨rfl, rfl⟩, ⟨⟨rfl, rfl⟩, ⟨⟨rfl, rfl⟩, ⟨⟨rfl, rfl⟩, ⟨⟨rfl, rfl⟩, ⟨⟨rfl, rfl⟩, ⟨⟨rfl, rfl⟩, ⟨⟨rfl, rfl⟩, ⟨⟨rfl, rfl⟩, ⟨⟨rfl, rfl⟩, ⟨⟨rfl, rfl⟩, ⟨⟨rfl, rfl⟩, trivial⟩⟩⟩⟩⟩⟩⟩⟩⟩⟩⟩⟩, ⟨⟨rfl, rfl⟩, ⟨⟨rfl, rfl⟩, ⟨⟨rfl, rfl⟩, ⟨⟨rfl, rfl⟩, ⟨⟨rfl, rfl⟩, trivial⟩⟩⟩⟩⟩⟩, rfl⟩
            · replace h := ite_f h h35
              refine rwp_f (isF h35) ?_
              refine rwp_exit ?_
              refine hK25 _ _ _ ?_
              exact hK18 _ _ _ ⟨_, _, Settled.refl, _, _, ⟨h, rfl, rfl⟩, ⟨rfl, trivial, trivial⟩, rfl⟩
          · refine rwp_region fun K87 hK87 => ?_
            refine st0 15808 rfl (ok (mv (.d (eI v30)))) ?_
            refine st0 15872 rfl (ok (mv (.d ((eL 1 eU8) a2)))) ?_
            refine st0 15936 rfl (ok (lenL _ _)) ?_
            refine st0 16000 rfl (ok (lssI _ _)) ?_
            refine st0 16064 rfl (ok (mv (.d (eB (decide (v30 < (a2.length : Int))))))) ?_
            rcases Bool.eq_false_or_eq_true ((decide (v30 < (a2.length : Int)))) with h88 | h88
            · replace h := ite_t h h88
              refine stG (isT h88) ?_
              refine st0 16128 rfl (ok (mv (.d (eI v30)))) ?_
              refine stG (isT h88) ?_
              refine st0 16192 rfl (ok (lssI _ (40 : Int))) ?_
              refine st0 16256 rfl (ok (pick_t h88 (.d (eB (decide (v30 < (40 : Int))))) _)) ?_
              refine st0 16320 rfl (ok (mv (.d (eB (decide (v30 < (40 : Int))))))) ?_
              rcases Bool.eq_false_or_eq_true ((decide (v30 < (40 : Int)))) with h89 | h89
              · replace h := ite_t h h89
                refine stG (isT h89) ?_
                refine st0 16384 rfl (ok (mv (.ref 3905 v12.length 0 v12.length))) ?_
                refine stG (isT h89) ?_
                refine st0 16448 rfl (ok (lenR _ _ _ _)) ?_
                refine stG (isT h89) ?_
                refine st0 16512 rfl (ok (gtrI _ (0 : Int))) ?_
                refine st0 16576 rfl (ok (pick_t h89 (.d (eB (decide ((0 : Int) < (v12.length : Int))))) _)) ?_
                refine hK87 _ _ ?_
                simp only [thenK, blockK, keepE, updM, List.filter_cons, List.filter_nil, List.nil_append, List.cons_append, List.map_cons, List.map_nil, envE, Mem.get, Nat.reduceEqDiff, reduceIte, Option.isNone_none, Option.isNone_some, Bool.false_eq_true, List.length_cons, List.length_nil, Nat.reduceAdd, Nat.reduceMul]
                exact hK34 _ _ _ ⟨_, _, Settled.refl, _, _, ⟨_, h, rfl, rfl⟩, ⟨rfl, ⟨⟨rfl, rfl⟩, ⟨⟨rfl, rfl⟩, ⟨⟨rfl, rfl⟩, ⟨⟨rfl, rfl⟩, ⟨⟨rfl, rfl⟩, ⟨⟨rfl, rfl⟩, ⟨⟨rfl, rfl⟩, ⟨⟨rfl, rfl⟩, trivial⟩⟩⟩⟩⟩⟩⟩⟩, ⟨⟨rfl, rfl⟩, ⟨⟨rfl, rfl⟩, ⟨⟨rfl, rfl⟩, trivial⟩⟩⟩⟩, rfl⟩
              · replace h := ite_f h h89
                refine stGN 16384 rfl rfl h89 ?_
                refine stGN 16448 rfl rfl h89 ?_
                refine stGN 16512 rfl rfl h89 ?_
                refine st0 16576 rfl (ok (pick_f h89 _ (.d (eB false)))) ?_
                refine hK87 _ _ ?_
                simp only [thenK, blockK, keepE, updM, List.filter_cons, List.filter_nil, List.nil_append, List.cons_append, List.map_cons, List.map_nil, envE, Mem.get, Nat.reduceEqDiff, reduceIte, Option.isNone_none, Option.isNone_some, Bool.false_eq_true, List.length_cons, List.length_nil, Nat.reduceAdd, Nat.reduceMul]
                exact hK34 _ _ _ ⟨_, _, Settled.refl, _, _, ⟨_, h, rfl, rfl⟩, ⟨rfl, ⟨⟨rfl, rfl⟩, ⟨⟨rfl, rfl⟩, ⟨⟨rfl, rfl⟩, ⟨⟨rfl, rfl⟩, ⟨⟨rfl, rfl⟩, ⟨⟨rfl, rfl⟩, ⟨⟨rfl, rfl⟩, ⟨⟨rfl, rfl⟩, trivial⟩⟩⟩⟩⟩⟩⟩⟩, ⟨⟨rfl, rfl⟩, ⟨⟨rfl, rfl⟩, ⟨⟨rfl, rfl⟩, trivial⟩⟩⟩⟩, rfl⟩
            · replace h := ite_f h h88
              refine stGN 16128 rfl rfl h88 ?_
              refine stGN 16192 rfl rfl h88 ?_
              refine st0 16256 rfl (ok (pick_f h88 _ (.d (eB false)))) ?_
              refine st0 16320 rfl (ok (mv (.d (eB false)))) ?_
              refine stGN 16384 rfl rfl rfl ?_
              refine stGN 16448 rfl rfl rfl ?_
              refine stGN 16512 rfl rfl rfl ?_
              refine st0 16576 rfl (ok (pick_f rfl _ (.d (eB false)))) ?_
              refine hK87 _ _ ?_
              simp only [thenK, blockK, keepE, updM, List.filter_cons, List.filter_nil, List.nil_append, List.cons_append, List.map_cons, List.map_nil, envE, Mem.get, Nat.reduceEqDiff, reduceIte, Option.isNone_none, Option.isNone_some, Bool.false_eq_true, List.length_cons, List.length_nil, Nat.reduceAdd, Nat.reduceMul]
              exact hK34 _ _ _ ⟨_, _, Settled.refl, _, _, ⟨_, h, rfl, rfl⟩, ⟨rfl, ⟨⟨rfl, rfl⟩, ⟨⟨rfl, rfl⟩, ⟨⟨rfl, rfl⟩, ⟨⟨rfl, rfl⟩, ⟨⟨rfl, rfl⟩, ⟨⟨rfl, rfl⟩, ⟨⟨rfl, rfl⟩, ⟨⟨rfl, rfl⟩, trivial⟩⟩⟩⟩⟩⟩⟩⟩, ⟨⟨rfl, rfl⟩, ⟨⟨rfl, rfl⟩, ⟨⟨rfl, rfl⟩, trivial⟩⟩⟩⟩, rfl⟩
    · refine rwp_seq fun K90 hK90 => ?_
      refine rwp_region fun K91 hK91 => ?_
      refine st0 4672 rfl (ok (mv (.d (eI (0 : Int))))) ?_
      refine hK91 _ _ ?_
      simp only [thenK, blockK, keepE, updM, List.filter_cons, List.filter_nil, List.nil_append, List.cons_append, List.map_cons, List.map_nil, envE, Mem.get, Nat.reduceEqDiff, reduceIte, Option.isNone_none, Option.isNone_some, Bool.false_eq_true, List.length_cons, List.length_nil, Nat.reduceAdd, Nat.reduceMul]
      refine hK90 _ _ _ ?_
      refine rwp_block fun K92 hK92 => ?_
      refine rwp_loop ([], []) 6784 (fun k env mem => ∃ (v93 : Int), passkeylaw29ChallengeOnceL9 a1 a2 a3 v9 v10 v11 v12 k v93 = some res ∧ env = [(1, .d ((eL 1 eU8) a1)), (2, .d ((eL 1 eU8) a2)), (3, .d (eU8 a3)), (9, .ptr 256 0), (10, .ref 3905 v12.length 0 v12.length), (15, .d (eI v93))] ∧ mem = [(256, .var .mine [.d (eU64 v9), .d (eI v10), .d ((eL 5 eTApiChallenge) v11)]), (3905, .row true 1 (v12.map (eL 1 eU8)))]) FUEL ⟨_, _, Settled.refl, _, _, ⟨_, h, rfl, rfl⟩, ⟨rfl, ⟨⟨rfl, rfl⟩, ⟨⟨rfl, rfl⟩, ⟨⟨rfl, rfl⟩, ⟨⟨rfl, rfl⟩, ⟨⟨rfl, rfl⟩, ⟨⟨rfl, rfl⟩, trivial⟩⟩⟩⟩⟩⟩, ⟨⟨rfl, rfl⟩, ⟨⟨rfl, rfl⟩, trivial⟩⟩⟩, rfl⟩ (fun k9 env1 mem1 hI K94 hK94 => ?_)
      obtain ⟨v93, h, rfl, rfl⟩ := hI
      cases k9 with
      | zero => simp [passkeylaw29ChallengeOnceL9] at h
      | succ k9 =>
        rw [passkeylaw29ChallengeOnceL9] at h
        refine rwp_seq fun K95 hK95 => ?_
        refine rwp_seq fun K96 hK96 => ?_
        refine rwp_region fun K97 hK97 => ?_
        refine st0 6848 rfl (ok (mv (.d (eI v93)))) ?_
        refine st0 6912 rfl (ok (mv (.ref 3905 v12.length 0 v12.length))) ?_
        refine st0 6976 rfl (ok (lenR _ _ _ _)) ?_
        refine st0 7040 rfl (ok (lssI _ _)) ?_
        refine hK97 _ _ ?_
        simp only [thenK, blockK, keepE, updM, List.filter_cons, List.filter_nil, List.nil_append, List.cons_append, List.map_cons, List.map_nil, envE, Mem.get, Nat.reduceEqDiff, reduceIte, Option.isNone_none, Option.isNone_some, Bool.false_eq_true, List.length_cons, List.length_nil, Nat.reduceAdd, Nat.reduceMul]
        refine hK96 _ _ _ ?_
        rcases Bool.eq_false_or_eq_true ((decide (v93 < (v12.length : Int)))) with h98 | h98
        · replace h := ite_t h h98
          refine rwp_t (isT h98) ?_
          refine rwp_skip ?_
          refine hK95 _ _ _ ?_
          refine rwp_join ([], []) 8576 (fun env mem => passkeylaw29ChallengeOnceJ10 (passkeylaw29ChallengeOnceL9 a1 a2 a3 v9 v10 v11 v12 k9) v93 = some res ∧ env = [(1, .d ((eL 1 eU8) a1)), (2, .d ((eL 1 eU8) a2)), (3, .d (eU8 a3)), (9, .ptr 256 0), (10, .ref 3905 v12.length 0 v12.length), (15, .d (eI v93))] ∧ mem = [(256, .var .mine [.d (eU64 v9), .d (eI v10), .d ((eL 5 eTApiChallenge) v11)]), (3905, .row true 1 (v12.map (eL 1 eU8)))]) (fun _ _ hI => ?_) (fun K99 hK99 => ?_)
          · obtain ⟨h, rfl, rfl⟩ := hI
            unfold passkeylaw29ChallengeOnceJ10 at h
            refine rwp_region fun K100 hK100 => ?_
            refine st0 8640 rfl (ok (mv (.d (eI v93)))) ?_
            refine st0 8704 rfl (ok (addI _ (1 : Int))) ?_
            refine st0 8768 rfl (ok (mv (.d (eI (w64 (v93 + (1 : Int))))))) ?_
            refine hK100 _ _ ?_
            simp only [thenK, blockK, keepE, updM, List.filter_cons, List.filter_nil, List.nil_append, List.cons_append, List.map_cons, List.map_nil, envE, Mem.get, Nat.reduceEqDiff, reduceIte, Option.isNone_none, Option.isNone_some, Bool.false_eq_true, List.length_cons, List.length_nil, Nat.reduceAdd, Nat.reduceMul]
            exact hK94.out _ _ _ k9 (Nat.lt_succ_self k9) ⟨_, _, Settled.refl, _, _, ⟨_, h, rfl, rfl⟩, ⟨rfl, ⟨⟨rfl, rfl⟩, ⟨⟨rfl, rfl⟩, ⟨⟨rfl, rfl⟩, ⟨⟨rfl, rfl⟩, ⟨⟨rfl, rfl⟩, ⟨⟨rfl, rfl⟩, trivial⟩⟩⟩⟩⟩⟩, ⟨⟨rfl, rfl⟩, ⟨⟨rfl, rfl⟩, trivial⟩⟩⟩, rfl⟩
          · refine rwp_block fun K101 hK101 => ?_
            refine rwp_seq fun K102 hK102 => ?_
            refine rwp_region fun K103 hK103 => ?_
            refine st0 7104 rfl (ok (mv (.d (eI (0 : Int))))) ?_
            refine hK103 _ _ ?_
            simp only [thenK, blockK, keepE, updM, List.filter_cons, List.filter_nil, List.nil_append, List.cons_append, List.map_cons, List.map_nil, envE, Mem.get, Nat.reduceEqDiff, reduceIte, Option.isNone_none, Option.isNone_some, Bool.false_eq_true, List.length_cons, List.length_nil, Nat.reduceAdd, Nat.reduceMul]
            refine hK102 _ _ _ ?_
            refine rwp_block fun K104 hK104 => ?_
            refine rwp_loop ([], []) 8320 (fun k env mem => ∃ (v105 : Int), passkeylaw29ChallengeOnceL11 (passkeylaw29ChallengeOnceL9 a1 a2 a3 v9 v10 v11 v12 k9) v12 v93 k v105 = some res ∧ env = [(1, .d ((eL 1 eU8) a1)), (2, .d ((eL 1 eU8) a2)), (3, .d (eU8 a3)), (9, .ptr 256 0), (10, .ref 3905 v12.length 0 v12.length), (15, .d (eI v93)), (16, .d (eI v105))] ∧ mem = [(256, .var .mine [.d (eU64 v9), .d (eI v10), .d ((eL 5 eTApiChallenge) v11)]), (3905, .row true 1 (v12.map (eL 1 eU8)))]) FUEL ⟨_, _, Settled.refl, _, _, ⟨_, h, rfl, rfl⟩, ⟨rfl, ⟨⟨rfl, rfl⟩, ⟨⟨rfl, rfl⟩, ⟨⟨rfl, rfl⟩, ⟨⟨rfl, rfl⟩, ⟨⟨rfl, rfl⟩, ⟨⟨rfl, rfl⟩, ⟨⟨rfl, rfl⟩, trivial⟩⟩⟩⟩⟩⟩⟩, ⟨⟨rfl, rfl⟩, ⟨⟨rfl, rfl⟩, trivial⟩⟩⟩, rfl⟩ (fun k11 env1 mem1 hI K106 hK106 => ?_)
            obtain ⟨v105, h, rfl, rfl⟩ := hI
            cases k11 with
            | zero => simp [passkeylaw29ChallengeOnceL11] at h
            | succ k11 =>
              rw [passkeylaw29ChallengeOnceL11] at h
              refine rwp_seq fun K107 hK107 => ?_
              refine rwp_seq fun K108 hK108 => ?_
              refine rwp_region fun K109 hK109 => ?_
              refine st0 8384 rfl (ok (mv (.d (eI v105)))) ?_
              refine st0 8448 rfl (ok (mv (.d (eI v93)))) ?_
              refine st0 8512 rfl (ok (lssI _ _)) ?_
              refine hK109 _ _ ?_
              simp only [thenK, blockK, keepE, updM, List.filter_cons, List.filter_nil, List.nil_append, List.cons_append, List.map_cons, List.map_nil, envE, Mem.get, Nat.reduceEqDiff, reduceIte, Option.isNone_none, Option.isNone_some, Bool.false_eq_true, List.length_cons, List.length_nil, Nat.reduceAdd, Nat.reduceMul]
              refine hK108 _ _ _ ?_
              rcases Bool.eq_false_or_eq_true ((decide (v105 < v93))) with h110 | h110
              · replace h := ite_t h h110
                refine rwp_t (isT h110) ?_
                refine rwp_skip ?_
                refine hK107 _ _ _ ?_
                refine rwp_seq fun K111 hK111 => ?_
                refine rwp_block fun K112 hK112 => ?_
                refine rwp_seq fun K113 hK113 => ?_
                refine rwp_draw fun K114 hK114 => ?_
                refine dr0 8576 rfl (ok (mv (.ref 3905 v12.length 0 v12.length))) (by kernel_rfl) ?_
                refine dr0 8640 rfl (ok (mv (.d (eI v93)))) (by kernel_rfl) ?_
                obtain ⟨h115, h⟩ := asq_inv h
                refine dr0 8704 rfl (ok (iaR (xs := v12) (e := (eL 1 eU8)) rfl rfl h115)) (by kernel_rfl) ?_
                refine dr0 8768 rfl (ok (ld_r (e := (eL 1 eU8)) (xs := v12) ([] : List (BitVec 8)) rfl rfl (by have := h115; simp at this ⊢; omega) rfl)) (by kernel_rfl) ?_
                refine dr0 8832 rfl (ok (b2s contL)) (by kernel_rfl) ?_
                refine dr0 8896 rfl (ok (mv (.ref 3905 v12.length 0 v12.length))) (by kernel_rfl) ?_
                refine dr0 8960 rfl (ok (mv (.d (eI v105)))) (by kernel_rfl) ?_
                obtain ⟨h116, h⟩ := asq_inv h
                refine dr0 9024 rfl (ok (iaR (xs := v12) (e := (eL 1 eU8)) rfl rfl h116)) (by kernel_rfl) ?_
                refine dr0 9088 rfl (ok (ld_r (e := (eL 1 eU8)) (xs := v12) ([] : List (BitVec 8)) rfl rfl (by have := h116; simp at this ⊢; omega) rfl)) (by kernel_rfl) ?_
                refine dr0 9152 rfl (ok (b2s contL)) (by kernel_rfl) ?_
                refine dr0 9216 rfl (ok (eqlS (v12.getD (0 + v93.toNat) ([] : List (BitVec 8))) (v12.getD (0 + v105.toNat) ([] : List (BitVec 8))))) (by kernel_rfl) ?_
                refine hK114 _ _ ?_
                simp only [thenK, blockK, keepE, updM, List.filter_cons, List.filter_nil, List.nil_append, List.cons_append, List.map_cons, List.map_nil, envE, Mem.get, Nat.reduceEqDiff, reduceIte, Option.isNone_none, Option.isNone_some, Bool.false_eq_true, List.length_cons, List.length_nil, Nat.reduceAdd, Nat.reduceMul]
                refine hK113 _ _ _ ?_
                rcases Bool.eq_false_or_eq_true (((v12.getD (0 + v93.toNat) ([] : List (BitVec 8))) == (v12.getD (0 + v105.toNat) ([] : List (BitVec 8))))) with h117 | h117
                · replace h := ite_t h h117
                  refine rwp_t (isT h117) ?_
                  refine rwp_seq fun K118 hK118 => ?_
                  refine rwp_region fun K119 hK119 => ?_
                  refine st0 9280 rfl (ok (mv (.d (eB false)))) ?_
                  refine hK119 _ _ ?_
                  simp only [thenK, blockK, keepE, updM, List.filter_cons, List.filter_nil, List.nil_append, List.cons_append, List.map_cons, List.map_nil, envE, Mem.get, Nat.reduceEqDiff, reduceIte, Option.isNone_none, Option.isNone_some, Bool.false_eq_true, List.length_cons, List.length_nil, Nat.reduceAdd, Nat.reduceMul]
                  refine hK118 _ _ _ ?_
                  refine rwp_ret ?_
                  obtain rfl := Option.some.inj h
                  try simp only [thenK, blockK, reduceIte]
                  exact Or.inl (end_ok trivial (rs_t (v := .d (eB false)) rfl rs_nil) (en_d (to_d _) en_nil) ou_nil (by first | exact eok rfl rfl rfl rfl trivial | (refine eok ?_ ?_ ?_ ?_ ?_ <;> first | rfl | exact trivial | simp [retM, Mem.get, PV.renL, PV.ren, Blk.ren, comps, rhoR, rhoM, appN, PV.refsL, PV.refs, keys, nodupB, Blk.refs, allIn, Blk.bor])))
                · replace h := ite_f h h117
                  refine rwp_f (isF h117) ?_
                  refine rwp_skip ?_
                  refine hK112 _ _ _ ?_
                  refine hK111 _ _ _ ?_
                  refine rwp_region fun K120 hK120 => ?_
                  refine st0 9280 rfl (ok (mv (.d (eI v105)))) ?_
                  refine st0 9344 rfl (ok (addI _ (1 : Int))) ?_
                  refine st0 9408 rfl (ok (mv (.d (eI (w64 (v105 + (1 : Int))))))) ?_
                  refine hK120 _ _ ?_
                  simp only [thenK, blockK, keepE, updM, List.filter_cons, List.filter_nil, List.nil_append, List.cons_append, List.map_cons, List.map_nil, envE, Mem.get, Nat.reduceEqDiff, reduceIte, Option.isNone_none, Option.isNone_some, Bool.false_eq_true, List.length_cons, List.length_nil, Nat.reduceAdd, Nat.reduceMul]
                  exact hK106.out _ _ _ k11 (Nat.lt_succ_self k11) ⟨_, _, Settled.refl, _, _, ⟨_, h, rfl, rfl⟩, ⟨rfl, ⟨⟨rfl, rfl⟩, ⟨⟨rfl, rfl⟩, ⟨⟨rfl, rfl⟩, ⟨⟨rfl, rfl⟩, ⟨⟨rfl, rfl⟩, ⟨⟨rfl, rfl⟩, ⟨⟨rfl, rfl⟩, trivial⟩⟩⟩⟩⟩⟩⟩, ⟨⟨rfl, rfl⟩, ⟨⟨rfl, rfl⟩, trivial⟩⟩⟩, rfl⟩
              · replace h := ite_f h h110
                refine rwp_f (isF h110) ?_
                refine rwp_exit ?_
                refine hK104 _ _ _ ?_
                refine hK101 _ _ _ ?_
                exact hK99 _ _ _ ⟨_, _, Settled.refl, _, _, ⟨h, rfl, rfl⟩, ⟨rfl, ⟨⟨rfl, rfl⟩, ⟨⟨rfl, rfl⟩, ⟨⟨rfl, rfl⟩, ⟨⟨rfl, rfl⟩, ⟨⟨rfl, rfl⟩, ⟨⟨rfl, rfl⟩, trivial⟩⟩⟩⟩⟩⟩, ⟨⟨rfl, rfl⟩, ⟨⟨rfl, rfl⟩, trivial⟩⟩⟩, rfl⟩
        · replace h := ite_f h h98
          refine rwp_f (isF h98) ?_
          refine rwp_exit ?_
          refine hK92 _ _ _ ?_
          exact hK14 _ _ _ ⟨_, _, Settled.refl, _, _, ⟨h, rfl, rfl⟩, ⟨rfl, ⟨⟨rfl, rfl⟩, ⟨⟨rfl, rfl⟩, ⟨⟨rfl, rfl⟩, ⟨⟨rfl, rfl⟩, ⟨⟨rfl, rfl⟩, trivial⟩⟩⟩⟩⟩, ⟨⟨rfl, rfl⟩, ⟨⟨rfl, rfl⟩, trivial⟩⟩⟩, rfl⟩
  · refine rwp_seq fun K121 hK121 => ?_
    refine rwp_region fun K122 hK122 => ?_
    refine st0 512 rfl (ok (mv (.d (eI (0 : Int))))) ?_
    refine hK122 _ _ ?_
    simp only [thenK, blockK, keepE, updM, List.filter_cons, List.filter_nil, List.nil_append, List.cons_append, List.map_cons, List.map_nil, envE, Mem.get, Nat.reduceEqDiff, reduceIte, Option.isNone_none, Option.isNone_some, Bool.false_eq_true, List.length_cons, List.length_nil, Nat.reduceAdd, Nat.reduceMul]
    refine hK121 _ _ _ ?_
    refine rwp_block fun K123 hK123 => ?_
    refine rwp_loop ([(10, 3905)], []) 3968 (fun k env mem => ∃ (v124 : BitVec 64) (v125 : Int) (v126 : List (TApiChallenge)) (v127 : List (List (BitVec 8))) (v128 : Int), passkeylaw29ChallengeOnceL12 a1 a2 a3 k v124 v125 v126 v127 v128 = some res ∧ env = [(1, .d ((eL 1 eU8) a1)), (2, .d ((eL 1 eU8) a2)), (3, .d (eU8 a3)), (9, .ptr 256 0), (10, .ref 3905 v127.length 0 v127.length), (11, .d (eI v128))] ∧ mem = [(256, .var .mine [.d (eU64 v124), .d (eI v125), .d ((eL 5 eTApiChallenge) v126)]), (3905, .row true 1 (v127.map (eL 1 eU8)))]) FUEL ⟨_, _, Settled.refl, _, _, ⟨_, _, _, _, _, h, rfl, rfl⟩, ⟨rfl, ⟨⟨rfl, rfl⟩, ⟨⟨rfl, rfl⟩, ⟨⟨rfl, rfl⟩, ⟨⟨rfl, rfl⟩, ⟨⟨rfl, rfl⟩, ⟨⟨rfl, rfl⟩, trivial⟩⟩⟩⟩⟩⟩, ⟨⟨rfl, rfl⟩, ⟨⟨rfl, rfl⟩, trivial⟩⟩⟩, rfl⟩ (fun k12 env1 mem1 hI K129 hK129 => ?_)
    obtain ⟨v124, v125, v126, v127, v128, h, rfl, rfl⟩ := hI
    cases k12 with
    | zero => simp [passkeylaw29ChallengeOnceL12] at h
    | succ k12 =>
      rw [passkeylaw29ChallengeOnceL12] at h
      refine rwp_seq fun K130 hK130 => ?_
      refine rwp_join ([], []) 4544 (fun env mem => ∃ (v131 : Bool), passkeylaw29ChallengeOnceJ13 (passkeylaw29ChallengeOnceL12 a1 a2 a3 k12) a1 a2 a3 v124 v125 v126 v127 v128 v131 = some res ∧ env = [(1, .d ((eL 1 eU8) a1)), (2, .d ((eL 1 eU8) a2)), (3, .d (eU8 a3)), (9, .ptr 256 0), (10, .ref 3905 v127.length 0 v127.length), (11, .d (eI v128)), (34, .d (eB v131))] ∧ mem = [(256, .var .mine [.d (eU64 v124), .d (eI v125), .d ((eL 5 eTApiChallenge) v126)]), (3905, .row true 1 (v127.map (eL 1 eU8)))]) (fun _ _ hI => ?_) (fun K132 hK132 => ?_)
      · obtain ⟨v131, h, rfl, rfl⟩ := hI
        unfold passkeylaw29ChallengeOnceJ13 at h
        rcases Bool.eq_false_or_eq_true (v131) with h133 | h133
        · replace h := ite_t h h133
          refine rwp_t (isT h133) ?_
          refine rwp_skip ?_
          refine hK130 _ _ _ ?_
          refine rwp_seq fun K134 hK134 => ?_
          refine rwp_block fun K135 hK135 => ?_
          refine rwp_seq fun K136 hK136 => ?_
          refine rwp_draw fun K137 hK137 => ?_
          refine dr0 4608 rfl (ok (ld_v (v := .d (.agg [eU64 v124, eI v125, (eL 5 eTApiChallenge) v126])) rfl rfl rfl)) (by kernel_rfl) ?_
          refine dr0 4672 rfl (ok (mv (.d ((eL 1 eU8) a1)))) (by kernel_rfl) ?_
          refine dr0 4736 rfl (ok (mv (.d (eI v128)))) (by kernel_rfl) ?_
          obtain ⟨h138, h⟩ := asq_inv h
          refine dr0 4800 rfl (ok (iaL (e := eU8) (xs := a1) 0#8 h138)) (by kernel_rfl) ?_
          refine dr0 4864 rfl (ok (ld_i (v := eU8 (a1.getD v128.toNat 0#8)) rfl rfl)) (by kernel_rfl) ?_
          refine dr0 4928 rfl (ok (and8 _ (1#8))) (by kernel_rfl) ?_
          refine dr0 4992 rfl (ok (toI8 _)) (by kernel_rfl) ?_
          obtain ⟨v139, h140, h⟩ := lett_inv h
          refine dr0e 5056 rfl (ok (addI (1 : Int) _)) (congrArg (fun z => PV.d (eI z)) h140) (by kernel_rfl) ?_
          refine dr0 5120 rfl (ok (mv (.d ((eL 1 eU8) a1)))) (by kernel_rfl) ?_
          refine dr0 5184 rfl (ok (mv (.d (eI v128)))) (by kernel_rfl) ?_
          obtain ⟨h141, h⟩ := asq_inv h
          refine dr0 5248 rfl (ok (iaL (e := eU8) (xs := a1) 0#8 h141)) (by kernel_rfl) ?_
          refine dr0 5312 rfl (ok (ld_i (v := eU8 (a1.getD v128.toNat 0#8)) rfl rfl)) (by kernel_rfl) ?_
          refine dr0 5376 rfl (ok (toI8 _)) (by kernel_rfl) ?_
          refine dr0 5440 rfl (ok (remI _ (3 : Int) (by decide))) (by kernel_rfl) ?_
          obtain ⟨y142, h143, h⟩ := bind_inv h
          refine dr0 5504 rfl (call_ok (v := .d (eS y142)) (u := []) (ar_d (eI (((a1.getD v128.toNat 0#8).toNat : Int).tmod (3 : Int))) ar_nil) rfl (passkeycastNameOK (((a1.getD v128.toNat 0#8).toNat : Int).tmod (3 : Int)) y142 h143) rfl) (by kernel_rfl) ?_
          refine dr0 5568 rfl (ok (mv (.d ((eL 1 eU8) a1)))) (by kernel_rfl) ?_
          refine dr0 5632 rfl (ok (mv (.d (eI v128)))) (by kernel_rfl) ?_
          obtain ⟨h144, h⟩ := asq_inv h
          refine dr0 5696 rfl (ok (iaL (e := eU8) (xs := a1) 0#8 h144)) (by kernel_rfl) ?_
          refine dr0 5760 rfl (ok (ld_i (v := eU8 (a1.getD v128.toNat 0#8)) rfl rfl)) (by kernel_rfl) ?_
          refine dr0 5824 rfl (ok (and8 _ (8#8))) (by kernel_rfl) ?_
          refine dr0 5888 rfl (ok (eql8 _ (8#8))) (by kernel_rfl) ?_
          obtain ⟨y145, h146, h⟩ := bind_inv h
          refine dr1 5952 rfl (mem' := [(5889, .row true 1 (y145.2.1.map eU8)), (256, .var .mine [.d (eU64 v124), .d (eI v125), .d ((eL 5 eTApiChallenge) v126)]), (3905, .row true 1 (v127.map (eL 1 eU8)))]) (call_ok (v := .tup [.d (eTApiChallenges y145.1), .ref 5889 y145.2.1.length 0 y145.2.1.length, .d (eI y145.2.2)]) (u := [(5889, .row true 1 (y145.2.1.map eU8))]) (ar_d (eTApiChallenges (TApiChallenges.mk v124 v125 v126)) (ar_d (eI v139) (ar_d (eS y142) (ar_d (eB (((a1.getD v128.toNat 0#8) &&& (8#8)) == (8#8))) (ar_d (eI (100 : Int)) ar_nil))))) rfl (challengeIssueOK (TApiChallenges.mk v124 v125 v126) v139 y142 (((a1.getD v128.toNat 0#8) &&& (8#8)) == (8#8)) (100 : Int) y145 h146) rfl) rfl (by kernel_rfl) ?_
          refine dr0 6016 rfl (ok (mv (.tup [.d (eTApiChallenges y145.1), .ref 5889 y145.2.1.length 0 y145.2.1.length, .d (eI y145.2.2)]))) (by kernel_rfl) ?_
          refine dr0 6080 rfl (ok (extr (v := .d (eTApiChallenges y145.1)) rfl rfl)) (by kernel_rfl) ?_
          refine dr0 6144 rfl (ok (extr (v := .ref 5889 y145.2.1.length 0 y145.2.1.length) rfl rfl)) (by kernel_rfl) ?_
          refine dr0 6208 rfl (ok (extr (v := .d (eI y145.2.2)) rfl rfl)) (by kernel_rfl) ?_
          refine dr1 6272 rfl (mem' := [(6208, .var .mine [.d (eU64 (0#64)), .d (eI (0 : Int)), .nil 5]), (5889, .row true 1 (y145.2.1.map eU8)), (256, .var .mine [.d (eU64 v124), .d (eI v125), .d ((eL 5 eTApiChallenge) v126)]), (3905, .row true 1 (v127.map (eL 1 eU8)))]) (ok (alc (zs := [.d (eU64 (0#64)), .d (eI (0 : Int)), .nil 5]))) rfl (by kernel_rfl) ?_
          refine drn 6336 rfl (mem' := [(6208, .var .mine [.d (eU64 y145.1.Secret), .d (eI y145.1.Count), .d ((eL 5 eTApiChallenge) y145.1.Open)]), (5889, .row true 1 (y145.2.1.map eU8)), (256, .var .mine [.d (eU64 v124), .d (eI v125), .d ((eL 5 eTApiChallenge) v126)]), (3905, .row true 1 (v127.map (eL 1 eU8)))]) (ok (sto_v (ps' := [.d (eU64 y145.1.Secret), .d (eI y145.1.Count), .d ((eL 5 eTApiChallenge) y145.1.Open)]) rfl rfl rfl rfl)) rfl (by kernel_rfl) ?_
          refine dr0 6400 rfl (ok (mv (.ref 5889 y145.2.1.length 0 y145.2.1.length))) (by kernel_rfl) ?_
          refine dr0 6464 rfl (ok (mv (.d (eI y145.2.2)))) (by kernel_rfl) ?_
          refine hK137 _ _ ?_
          simp only [thenK, blockK, keepE, updM, List.filter_cons, List.filter_nil, List.nil_append, List.cons_append, List.map_cons, List.map_nil, envE, Mem.get, Nat.reduceEqDiff, reduceIte, Option.isNone_none, Option.isNone_some, Bool.false_eq_true, List.length_cons, List.length_nil, Nat.reduceAdd, Nat.reduceMul]
          refine hK136 _ _ _ ?_
          refine rwp_seq fun K147 hK147 => ?_
          refine rwp_seq fun K148 hK148 => ?_
          refine rwp_region fun K149 hK149 => ?_
          refine st0 6528 rfl (ok (mv (.d (eI y145.2.2)))) ?_
          refine st0 6592 rfl (ok (neqI _ (0 : Int))) ?_
          refine hK149 _ _ ?_
          simp only [thenK, blockK, keepE, updM, List.filter_cons, List.filter_nil, List.nil_append, List.cons_append, List.map_cons, List.map_nil, envE, Mem.get, Nat.reduceEqDiff, reduceIte, Option.isNone_none, Option.isNone_some, Bool.false_eq_true, List.length_cons, List.length_nil, Nat.reduceAdd, Nat.reduceMul]
          refine hK148 _ _ _ ?_
          rcases Bool.eq_false_or_eq_true ((y145.2.2 != (0 : Int))) with h150 | h150
          · replace h := ite_t h h150
            refine rwp_t (isT h150) ?_
            refine rwp_seq fun K151 hK151 => ?_
            refine rwp_region fun K152 hK152 => ?_
            refine st0 6656 rfl (ok (mv (.d (eB false)))) ?_
            refine hK152 _ _ ?_
            simp only [thenK, blockK, keepE, updM, List.filter_cons, List.filter_nil, List.nil_append, List.cons_append, List.map_cons, List.map_nil, envE, Mem.get, Nat.reduceEqDiff, reduceIte, Option.isNone_none, Option.isNone_some, Bool.false_eq_true, List.length_cons, List.length_nil, Nat.reduceAdd, Nat.reduceMul]
            refine hK151 _ _ _ ?_
            refine rwp_ret ?_
            obtain rfl := Option.some.inj h
            try simp only [thenK, blockK, reduceIte]
            exact Or.inl (end_ok trivial (rs_t (v := .d (eB false)) rfl rs_nil) (en_d (to_d _) en_nil) ou_nil (by first | exact eok rfl rfl rfl rfl trivial | (refine eok ?_ ?_ ?_ ?_ ?_ <;> first | rfl | exact trivial | simp [retM, Mem.get, PV.renL, PV.ren, Blk.ren, comps, rhoR, rhoM, appN, PV.refsL, PV.refs, keys, nodupB, Blk.refs, allIn, Blk.bor])))
          · replace h := ite_f h h150
            refine rwp_f (isF h150) ?_
            refine rwp_skip ?_
            refine hK147 _ _ _ ?_
            refine rwp_draw fun K153 hK153 => ?_
            refine dr0 6656 rfl (ok (ld_v (v := .d (.agg [eU64 y145.1.Secret, eI y145.1.Count, (eL 5 eTApiChallenge) y145.1.Open])) rfl rfl rfl)) (by kernel_rfl) ?_
            refine dr0 6720 rfl (ok (mv (.ref 3905 v127.length 0 v127.length))) (by kernel_rfl) ?_
            refine dr0 6784 rfl (ok (mv (.ref 5889 y145.2.1.length 0 y145.2.1.length))) (by kernel_rfl) ?_
            refine dr1 6848 rfl (mem' := [(6784, .row true 1 (([y145.2.1] : List (List (BitVec 8))).map (eL 1 eU8))), (5889, .row false 1 (y145.2.1.map eU8)), (6208, .var .mine [.d (eU64 y145.1.Secret), .d (eI y145.1.Count), .d ((eL 5 eTApiChallenge) y145.1.Open)]), (256, .var .mine [.d (eU64 v124), .d (eI v125), .d ((eL 5 eTApiChallenge) v126)]), (3905, .row true 1 (v127.map (eL 1 eU8)))]) (ok (bslF (e := (eL 1 eU8)) (ys := ([y145.2.1] : List (List (BitVec 8)))) rfl (fe_cons (to_1 rfl (ds_r (ys := y145.2.1) rfl rfl rfl ds_nil)) rfl fe_nil) rfl)) rfl (by kernel_rfl) ?_
            obtain ⟨h154, h⟩ := asq_inv h
            refine dr1 6912 rfl (mem' := [(3905, .row true 1 ((v127 ++ ([y145.2.1] : List (List (BitVec 8)))).map (eL 1 eU8))), (6784, .row true 1 (([y145.2.1] : List (List (BitVec 8))).map (eL 1 eU8))), (5889, .row false 1 (y145.2.1.map eU8)), (6208, .var .mine [.d (eU64 y145.1.Secret), .d (eI y145.1.Count), .d ((eL 5 eTApiChallenge) y145.1.Open)]), (256, .var .mine [.d (eU64 v124), .d (eI v125), .d ((eL 5 eTApiChallenge) v126)])]) (ok (appR (e := (eL 1 eU8)) (xs := v127) (ys := ([y145.2.1] : List (List (BitVec 8)))) (contR (xs := ([y145.2.1] : List (List (BitVec 8)))) rfl rfl rfl) rfl rfl rfl h154)) rfl (by kernel_rfl) ?_
            refine drn 6976 rfl (mem' := [(256, .var .mine [.d (eU64 y145.1.Secret), .d (eI y145.1.Count), .d ((eL 5 eTApiChallenge) y145.1.Open)]), (3905, .row true 1 ((v127 ++ ([y145.2.1] : List (List (BitVec 8)))).map (eL 1 eU8))), (6784, .row true 1 (([y145.2.1] : List (List (BitVec 8))).map (eL 1 eU8))), (5889, .row false 1 (y145.2.1.map eU8)), (6208, .var .mine [.d (eU64 y145.1.Secret), .d (eI y145.1.Count), .d ((eL 5 eTApiChallenge) y145.1.Open)])]) (ok (sto_v (ps' := [.d (eU64 y145.1.Secret), .d (eI y145.1.Count), .d ((eL 5 eTApiChallenge) y145.1.Open)]) rfl rfl rfl rfl)) rfl (by kernel_rfl) ?_
            refine dr0 7040 rfl (ok (mv (.ref 3905 (((v127 ++ ([y145.2.1] : List (List (BitVec 8))))).length) 0 (((v127 ++ ([y145.2.1] : List (List (BitVec 8))))).length)))) (by kernel_rfl) ?_
            refine hK153 _ _ ?_
            simp only [thenK, blockK, keepE, updM, List.filter_cons, List.filter_nil, List.nil_append, List.cons_append, List.map_cons, List.map_nil, envE, Mem.get, Nat.reduceEqDiff, reduceIte, Option.isNone_none, Option.isNone_some, Bool.false_eq_true, List.length_cons, List.length_nil, Nat.reduceAdd, Nat.reduceMul]
            refine hK135 _ _ _ ?_
            refine hK134 _ _ _ ?_
            refine rwp_region fun K155 hK155 => ?_
            refine st0 7104 rfl (ok (mv (.d (eI v128)))) ?_
            refine st0 7168 rfl (ok (addI _ (1 : Int))) ?_
            refine st0 7232 rfl (ok (mv (.d (eI (w64 (v128 + (1 : Int))))))) ?_
            refine hK155 _ _ ?_
            simp only [thenK, blockK, keepE, updM, List.filter_cons, List.filter_nil, List.nil_append, List.cons_append, List.map_cons, List.map_nil, envE, Mem.get, Nat.reduceEqDiff, reduceIte, Option.isNone_none, Option.isNone_some, Bool.false_eq_true, List.length_cons, List.length_nil, Nat.reduceAdd, Nat.reduceMul]
            exact hK129.out _ _ _ k12 (Nat.lt_succ_self k12) ⟨_, _, Settled.refl, _, _, ⟨_, _, _, _, _, h, rfl, rfl⟩, ⟨rfl, ⟨⟨rfl, rfl⟩, ⟨⟨rfl, rfl⟩, ⟨⟨rfl, rfl⟩, ⟨⟨rfl, rfl⟩, ⟨⟨rfl, rfl⟩, ⟨⟨rfl, rfl⟩, trivial⟩⟩⟩⟩⟩⟩, ⟨⟨rfl, rfl⟩, ⟨⟨rfl, rfl⟩, trivial⟩⟩⟩, rfl⟩
        · replace h := ite_f h h133
          refine rwp_f (isF h133) ?_
          refine rwp_exit ?_
          refine hK123 _ _ _ ?_
          exact hK13 _ _ _ ⟨_, _, Settled.refl, _, _, ⟨_, _, _, _, h, rfl, rfl⟩, ⟨rfl, ⟨⟨rfl, rfl⟩, ⟨⟨rfl, rfl⟩, ⟨⟨rfl, rfl⟩, ⟨⟨rfl, rfl⟩, ⟨⟨rfl, rfl⟩, trivial⟩⟩⟩⟩⟩, ⟨⟨rfl, rfl⟩, ⟨⟨rfl, rfl⟩, trivial⟩⟩⟩, rfl⟩
      · refine rwp_region fun K156 hK156 => ?_
        refine st0 4032 rfl (ok (mv (.d (eI v128)))) ?_
        refine st0 4096 rfl (ok (mv (.d ((eL 1 eU8) a1)))) ?_
        refine st0 4160 rfl (ok (lenL _ _)) ?_
        refine st0 4224 rfl (ok (lssI _ _)) ?_
        refine st0 4288 rfl (ok (mv (.d (eB (decide (v128 < (a1.length : Int))))))) ?_
        rcases Bool.eq_false_or_eq_true ((decide (v128 < (a1.length : Int)))) with h157 | h157
        · replace h := ite_t h h157
          refine stG (isT h157) ?_
          refine st0 4352 rfl (ok (mv (.d (eI v128)))) ?_
          refine stG (isT h157) ?_
          refine st0 4416 rfl (ok (lssI _ (20 : Int))) ?_
          refine st0 4480 rfl (ok (pick_t h157 (.d (eB (decide (v128 < (20 : Int))))) _)) ?_
          refine hK156 _ _ ?_
          simp only [thenK, blockK, keepE, updM, List.filter_cons, List.filter_nil, List.nil_append, List.cons_append, List.map_cons, List.map_nil, envE, Mem.get, Nat.reduceEqDiff, reduceIte, Option.isNone_none, Option.isNone_some, Bool.false_eq_true, List.length_cons, List.length_nil, Nat.reduceAdd, Nat.reduceMul]
          exact hK132 _ _ _ ⟨_, _, Settled.refl, _, _, ⟨_, h, rfl, rfl⟩, ⟨rfl, ⟨⟨rfl, rfl⟩, ⟨⟨rfl, rfl⟩, ⟨⟨rfl, rfl⟩, ⟨⟨rfl, rfl⟩, ⟨⟨rfl, rfl⟩, ⟨⟨rfl, rfl⟩, ⟨⟨rfl, rfl⟩, trivial⟩⟩⟩⟩⟩⟩⟩, ⟨⟨rfl, rfl⟩, ⟨⟨rfl, rfl⟩, trivial⟩⟩⟩, rfl⟩
        · replace h := ite_f h h157
          refine stGN 4352 rfl rfl h157 ?_
          refine stGN 4416 rfl rfl h157 ?_
          refine st0 4480 rfl (ok (pick_f h157 _ (.d (eB false)))) ?_
          refine hK156 _ _ ?_
          simp only [thenK, blockK, keepE, updM, List.filter_cons, List.filter_nil, List.nil_append, List.cons_append, List.map_cons, List.map_nil, envE, Mem.get, Nat.reduceEqDiff, reduceIte, Option.isNone_none, Option.isNone_some, Bool.false_eq_true, List.length_cons, List.length_nil, Nat.reduceAdd, Nat.reduceMul]
          exact hK132 _ _ _ ⟨_, _, Settled.refl, _, _, ⟨_, h, rfl, rfl⟩, ⟨rfl, ⟨⟨rfl, rfl⟩, ⟨⟨rfl, rfl⟩, ⟨⟨rfl, rfl⟩, ⟨⟨rfl, rfl⟩, ⟨⟨rfl, rfl⟩, ⟨⟨rfl, rfl⟩, ⟨⟨rfl, rfl⟩, trivial⟩⟩⟩⟩⟩⟩⟩, ⟨⟨rfl, rfl⟩, ⟨⟨rfl, rfl⟩, trivial⟩⟩⟩, rfl⟩

end Go.Proofs.Ty
