/- Each Go function comes to what its plain function says. PRINTED by a program of this session (ty.py). -/
import Derived.Test.YtkiffaadahpbkaaS13
set_option linter.unusedVariables false
set_option linter.unusedSimpArgs false
set_option maxHeartbeats 4000000
set_option maxRecDepth 10000
namespace Go.Proofs.Ty
open Go Go.RW Go.Proofs
/-- passkey/passkeylaw37.SharingAdds -/
def passkeylaw37SharingAddsH : Hints := ⟨[(0, [0, 1, 2, 3, 4]), (1, [0, 1, 2, 3, 11]), (2, [0, 1, 2, 3, 11, 54]), (3, [10]), (4, [0, 1, 2, 3, 11, 12, 13]), (5, [0, 1, 2, 3, 11, 12, 13, 14, 15]), (6, [0, 12, 13, 14, 15, 16, 17]), (7, [0, 12, 14, 16, 105]), (8, [10]), (9, [0, 12, 14, 16, 18]), (10, [0, 12, 14, 16, 18, 107]), (12, [0, 12, 14, 16, 18, 150]), (13, [10]), (11, [0, 12, 14, 16, 18]), (14, [10])], []⟩
def passkeylaw37SharingAddsRc : RCode :=
  .seq (.region false [⟨some 10, .mv, [.k (.d (.bool false))], none, []⟩] [0, 1, 2, 3, 4]) (.seq (.region false [⟨some 19, .mv, [.t 4], none, []⟩, ⟨some 20, .bin .rem, [.t 19, .k (.d
  (.int .u8 5))], none, []⟩, ⟨some 21, .cvt .i64, [.t 20], none, []⟩, ⟨some 22, .bin .add, [.k (.d (.int .i64 1)), .t 21], none, []⟩, ⟨some 11, .mv, [.t 22], none, []⟩] [0, 1, 2,
  3, 11]) (.seq (.seq (.region false [⟨some 23, .mv, [.t 0], none, []⟩, ⟨some 24, .len, [.t 23], none, []⟩, ⟨some 25, .mv, [.t 1], none, []⟩, ⟨some 26, .len, [.t 25], none, []⟩,
  ⟨some 27, .bin .neq, [.t 24, .t 26], none, []⟩, ⟨some 28, .mv, [.t 27], none, []⟩, ⟨some 29, .mv, [.t 2], some (28, false), []⟩, ⟨some 30, .len, [.t 29], some (28, false), []⟩,
  ⟨some 31, .mv, [.t 3], some (28, false), []⟩, ⟨some 32, .len, [.t 31], some (28, false), []⟩, ⟨some 33, .bin .neq, [.t 30, .t 32], some (28, false), []⟩, ⟨some 34, .pick, [.t 28,
  .k (.d (.bool true)), .t 33], none, []⟩, ⟨some 35, .mv, [.t 34], none, []⟩, ⟨some 36, .mv, [.t 0], some (35, false), []⟩, ⟨some 37, .len, [.t 36], some (35, false), []⟩, ⟨some
  38, .bin .gtr, [.t 37, .k (.d (.int .i64 12))], some (35, false), []⟩, ⟨some 39, .pick, [.t 35, .k (.d (.bool true)), .t 38], none, []⟩, ⟨some 40, .mv, [.t 39], none, []⟩, ⟨some
  41, .mv, [.t 2], some (40, false), []⟩, ⟨some 42, .len, [.t 41], some (40, false), []⟩, ⟨some 43, .mv, [.t 11], some (40, false), []⟩, ⟨some 44, .bin .sub, [.t 43, .k (.d (.int
  .i64 1))], some (40, false), []⟩, ⟨some 45, .mv, [.t 0], some (40, false), []⟩, ⟨some 46, .len, [.t 45], some (40, false), []⟩, ⟨some 47, .bin .mul, [.t 44, .t 46], some (40,
  false), []⟩, ⟨some 48, .bin .lss, [.t 42, .t 47], some (40, false), []⟩, ⟨some 49, .pick, [.t 40, .k (.d (.bool true)), .t 48], none, []⟩, ⟨some 50, .mv, [.t 49], none, []⟩,
  ⟨some 51, .mv, [.t 2], some (50, false), []⟩, ⟨some 52, .len, [.t 51], some (50, false), []⟩, ⟨some 53, .bin .gtr, [.t 52, .k (.d (.int .i64 200))], some (50, false), []⟩, ⟨some
  54, .pick, [.t 50, .k (.d (.bool true)), .t 53], none, []⟩] [0, 1, 2, 3, 11, 54]) (.cond (.t 54) (.seq (.region false [⟨some 55, .call 13 false, [], none, []⟩, ⟨some 10, .mv, [.t
  55], none, []⟩] [10]) .ret) .skip)) (.seq (.region false [⟨some 57, .mv, [.t 0], none, []⟩, ⟨some 58, .mv, [.t 2], none, []⟩, ⟨some 59, .mv, [.t 11], none, []⟩, ⟨some 60, .call
  16 true, [.t 57, .t 58, .t 59, .k (.d (.int .i64 6))], none, []⟩, ⟨some 56, .mv, [.t 60], none, []⟩, ⟨some 61, .ext 0, [.t 56], none, []⟩, ⟨some 62, .ext 1, [.t 56], none, []⟩,
  ⟨some 12, .mv, [.t 61], none, []⟩, ⟨some 13, .mv, [.t 62], none, []⟩] [0, 1, 2, 3, 11, 12, 13]) (.seq (.region false [⟨some 64, .mv, [.t 1], none, []⟩, ⟨some 65, .mv, [.t 3],
  none, []⟩, ⟨some 66, .mv, [.t 11], none, []⟩, ⟨some 67, .call 16 true, [.t 64, .t 65, .t 66, .k (.d (.int .i64 6))], none, []⟩, ⟨some 63, .mv, [.t 67], none, []⟩, ⟨some 68, .ext
  0, [.t 63], none, []⟩, ⟨some 69, .ext 1, [.t 63], none, []⟩, ⟨some 14, .mv, [.t 68], none, []⟩, ⟨some 15, .mv, [.t 69], none, []⟩] [0, 1, 2, 3, 11, 12, 13, 14, 15]) (.seq
  (.region false [⟨some 71, .mv, [.t 0], none, []⟩, ⟨some 72, .mv, [.t 1], none, []⟩, ⟨some 73, .call 25 true, [.t 71, .t 72], none, []⟩, ⟨some 74, .mv, [.t 2], none, []⟩, ⟨some
  75, .mv, [.t 3], none, []⟩, ⟨some 76, .call 25 true, [.t 74, .t 75], none, []⟩, ⟨some 77, .mv, [.t 11], none, []⟩, ⟨some 78, .call 16 true, [.t 73, .t 76, .t 77, .k (.d (.int
  .i64 6))], none, []⟩, ⟨some 70, .mv, [.t 78], none, []⟩, ⟨some 79, .ext 0, [.t 70], none, []⟩, ⟨some 80, .ext 1, [.t 70], none, []⟩, ⟨some 16, .mv, [.t 79], none, []⟩, ⟨some 17,
  .mv, [.t 80], none, []⟩] [0, 12, 13, 14, 15, 16, 17]) (.seq (.seq (.region false [⟨some 81, .mv, [.t 13], none, []⟩, ⟨some 82, .bin .neq, [.t 81, .k (.d (.int .i64 0))], none,
  []⟩, ⟨some 83, .mv, [.t 82], none, []⟩, ⟨some 84, .mv, [.t 15], some (83, false), []⟩, ⟨some 85, .bin .neq, [.t 84, .k (.d (.int .i64 0))], some (83, false), []⟩, ⟨some 86,
  .pick, [.t 83, .k (.d (.bool true)), .t 85], none, []⟩, ⟨some 87, .mv, [.t 86], none, []⟩, ⟨some 88, .mv, [.t 17], some (87, false), []⟩, ⟨some 89, .bin .neq, [.t 88, .k (.d
  (.int .i64 0))], some (87, false), []⟩, ⟨some 90, .pick, [.t 87, .k (.d (.bool true)), .t 89], none, []⟩, ⟨some 91, .mv, [.t 90], none, []⟩, ⟨some 92, .mv, [.t 12], some (91,
  false), []⟩, ⟨some 93, .len, [.t 92], some (91, false), []⟩, ⟨some 94, .bin .neq, [.t 93, .k (.d (.int .i64 6))], some (91, false), []⟩, ⟨some 95, .pick, [.t 91, .k (.d (.bool
  true)), .t 94], none, []⟩, ⟨some 96, .mv, [.t 95], none, []⟩, ⟨some 97, .mv, [.t 14], some (96, false), []⟩, ⟨some 98, .len, [.t 97], some (96, false), []⟩, ⟨some 99, .bin .neq,
  [.t 98, .k (.d (.int .i64 6))], some (96, false), []⟩, ⟨some 100, .pick, [.t 96, .k (.d (.bool true)), .t 99], none, []⟩, ⟨some 101, .mv, [.t 100], none, []⟩, ⟨some 102, .mv, [.t
  16], some (101, false), []⟩, ⟨some 103, .len, [.t 102], some (101, false), []⟩, ⟨some 104, .bin .neq, [.t 103, .k (.d (.int .i64 6))], some (101, false), []⟩, ⟨some 105, .pick,
  [.t 101, .k (.d (.bool true)), .t 104], none, []⟩] [0, 12, 14, 16, 105]) (.cond (.t 105) (.seq (.region false [⟨some 10, .mv, [.k (.d (.bool false))], none, []⟩] [10]) .ret)
  .skip)) (.seq (.seq (.region false [⟨some 18, .mv, [.k (.d (.int .i64 0))], none, []⟩] [0, 12, 14, 16, 18]) (.block 0 (.loop [] (.seq (.seq (.region false [⟨some 106, .mv, [.t
  18], none, []⟩, ⟨some 107, .bin .lss, [.t 106, .k (.d (.int .i64 6))], none, []⟩] [0, 12, 14, 16, 18, 107]) (.cond (.t 107) .skip (.exit 0))) (.seq (.block 1 (.seq (.region true
  [⟨some 110, .mv, [.t 12], none, []⟩, ⟨some 111, .mv, [.t 18], none, []⟩, ⟨some 112, .ia 2, [.t 110, .t 111], none, [0, 1]⟩, ⟨some 113, .fa 1, [.t 112], none, [0, 1, 2]⟩, ⟨some
  114, .load 1 false, [.t 113], none, [0, 1, 2, 3]⟩, ⟨some 115, .len, [.t 114], none, [0, 1, 2, 3, 4]⟩, ⟨some 116, .mv, [.t 0], none, []⟩, ⟨some 117, .len, [.t 116], none, [6]⟩,
  ⟨some 118, .bin .neq, [.t 115, .t 117], none, [0, 1, 2, 3, 4, 5, 6, 7]⟩, ⟨some 119, .mv, [.t 118], none, [0, 1, 2, 3, 4, 5, 6, 7, 8]⟩, ⟨some 120, .mv, [.t 14], some (119, false),
  [0, 1, 2, 3, 4, 5, 6, 7, 8, 9]⟩, ⟨some 121, .mv, [.t 18], some (119, false), [0, 1, 2, 3, 4, 5, 6, 7, 8, 9]⟩, ⟨some 122, .ia 2, [.t 120, .t 121], some (119, false), [0, 1, 2, 3,
  4, 5, 6, 7, 8, 9, 10, 11]⟩, ⟨some 123, .fa 1, [.t 122], some (119, false), [0, 1, 2, 3, 4, 5, 6, 7, 8, 9, 10, 11, 12]⟩, ⟨some 124, .load 1 false, [.t 123], some (119, false), [0,
  1, 2, 3, 4, 5, 6, 7, 8, 9, 10, 11, 12, 13]⟩, ⟨some 125, .len, [.t 124], some (119, false), [0, 1, 2, 3, 4, 5, 6, 7, 8, 9, 10, 11, 12, 13, 14]⟩, ⟨some 126, .mv, [.t 0], some (119,
  false), [0, 1, 2, 3, 4, 5, 6, 7, 8, 9]⟩, ⟨some 127, .len, [.t 126], some (119, false), [0, 1, 2, 3, 4, 5, 6, 7, 8, 9, 16]⟩, ⟨some 128, .bin .neq, [.t 125, .t 127], some (119,
  false), [0, 1, 2, 3, 4, 5, 6, 7, 8, 9, 10, 11, 12, 13, 14, 15, 16, 17]⟩, ⟨some 129, .pick, [.t 119, .k (.d (.bool true)), .t 128], none, [0, 1, 2, 3, 4, 5, 6, 7, 8, 9, 10, 11,
  12, 13, 14, 15, 16, 17, 18]⟩, ⟨some 130, .mv, [.t 129], none, [0, 1, 2, 3, 4, 5, 6, 7, 8, 9, 10, 11, 12, 13, 14, 15, 16, 17, 18, 19]⟩, ⟨some 131, .mv, [.t 12], some (130, false),
  [0, 1, 2, 3, 4, 5, 6, 7, 8, 9, 10, 11, 12, 13, 14, 15, 16, 17, 18, 19, 20]⟩, ⟨some 132, .mv, [.t 18], some (130, false), [0, 1, 2, 3, 4, 5, 6, 7, 8, 9, 10, 11, 12, 13, 14, 15,
  16, 17, 18, 19, 20]⟩, ⟨some 133, .ia 2, [.t 131, .t 132], some (130, false), [0, 1, 2, 3, 4, 5, 6, 7, 8, 9, 10, 11, 12, 13, 14, 15, 16, 17, 18, 19, 20, 21, 22]⟩, ⟨some 134, .fa
  1, [.t 133], some (130, false), [0, 1, 2, 3, 4, 5, 6, 7, 8, 9, 10, 11, 12, 13, 14, 15, 16, 17, 18, 19, 20, 21, 22, 23]⟩, ⟨some 135, .load 1 false, [.t 134], some (130, false),
  [0, 1, 2, 3, 4, 5, 6, 7, 8, 9, 10, 11, 12, 13, 14, 15, 16, 17, 18, 19, 20, 21, 22, 23, 24]⟩, ⟨some 136, .mv, [.t 14], some (130, false), [0, 1, 2, 3, 4, 5, 6, 7, 8, 9, 10, 11,
  12, 13, 14, 15, 16, 17, 18, 19, 20]⟩, ⟨some 137, .mv, [.t 18], some (130, false), [0, 1, 2, 3, 4, 5, 6, 7, 8, 9, 10, 11, 12, 13, 14, 15, 16, 17, 18, 19, 20]⟩, ⟨some 138, .ia 2,
  [.t 136, .t 137], some (130, false), [0, 1, 2, 3, 4, 5, 6, 7, 8, 9, 10, 11, 12, 13, 14, 15, 16, 17, 18, 19, 20, 26, 27]⟩, ⟨some 139, .fa 1, [.t 138], some (130, false), [0, 1, 2,
  3, 4, 5, 6, 7, 8, 9, 10, 11, 12, 13, 14, 15, 16, 17, 18, 19, 20, 26, 27, 28]⟩, ⟨some 140, .load 1 false, [.t 139], some (130, false), [0, 1, 2, 3, 4, 5, 6, 7, 8, 9, 10, 11, 12,
  13, 14, 15, 16, 17, 18, 19, 20, 26, 27, 28, 29]⟩, ⟨some 141, .call 25 true, [.t 135, .t 140], some (130, false), [0, 1, 2, 3, 4, 5, 6, 7, 8, 9, 10, 11, 12, 13, 14, 15, 16, 17,
  18, 19, 20, 21, 22, 23, 24, 25, 26, 27, 28, 29, 30]⟩, ⟨some 142, .b2s, [.t 141], some (130, false), [0, 1, 2, 3, 4, 5, 6, 7, 8, 9, 10, 11, 12, 13, 14, 15, 16, 17, 18, 19, 20, 21,
  22, 23, 24, 25, 26, 27, 28, 29, 30, 31]⟩, ⟨some 143, .mv, [.t 16], some (130, false), [0, 1, 2, 3, 4, 5, 6, 7, 8, 9, 10, 11, 12, 13, 14, 15, 16, 17, 18, 19, 20]⟩, ⟨some 144, .mv,
  [.t 18], some (130, false), [0, 1, 2, 3, 4, 5, 6, 7, 8, 9, 10, 11, 12, 13, 14, 15, 16, 17, 18, 19, 20]⟩, ⟨some 145, .ia 2, [.t 143, .t 144], some (130, false), [0, 1, 2, 3, 4, 5,
  6, 7, 8, 9, 10, 11, 12, 13, 14, 15, 16, 17, 18, 19, 20, 33, 34]⟩, ⟨some 146, .fa 1, [.t 145], some (130, false), [0, 1, 2, 3, 4, 5, 6, 7, 8, 9, 10, 11, 12, 13, 14, 15, 16, 17,
  18, 19, 20, 33, 34, 35]⟩, ⟨some 147, .load 1 false, [.t 146], some (130, false), [0, 1, 2, 3, 4, 5, 6, 7, 8, 9, 10, 11, 12, 13, 14, 15, 16, 17, 18, 19, 20, 33, 34, 35, 36]⟩,
  ⟨some 148, .b2s, [.t 147], some (130, false), [0, 1, 2, 3, 4, 5, 6, 7, 8, 9, 10, 11, 12, 13, 14, 15, 16, 17, 18, 19, 20, 33, 34, 35, 36, 37]⟩, ⟨some 149, .bin .neq, [.t 142, .t
  148], some (130, false), [0, 1, 2, 3, 4, 5, 6, 7, 8, 9, 10, 11, 12, 13, 14, 15, 16, 17, 18, 19, 20, 21, 22, 23, 24, 25, 26, 27, 28, 29, 30, 31, 32, 33, 34, 35, 36, 37, 38]⟩,
  ⟨some 150, .pick, [.t 130, .k (.d (.bool true)), .t 149], none, [0, 1, 2, 3, 4, 5, 6, 7, 8, 9, 10, 11, 12, 13, 14, 15, 16, 17, 18, 19, 20, 21, 22, 23, 24, 25, 26, 27, 28, 29, 30,
  31, 32, 33, 34, 35, 36, 37, 38, 39]⟩] [0, 12, 14, 16, 18, 150]) (.cond (.t 150) (.seq (.region false [⟨some 10, .mv, [.k (.d (.bool false))], none, []⟩] [10]) .ret) .skip)))
  (.region false [⟨some 108, .mv, [.t 18], none, []⟩, ⟨some 109, .bin .add, [.t 108, .k (.d (.int .i64 1))], none, []⟩, ⟨some 18, .mv, [.t 109], none, []⟩] [0, 12, 14, 16,
  18])))))) (.seq (.region false [⟨some 151, .call 13 false, [], none, []⟩, ⟨some 10, .mv, [.t 151], none, []⟩] [10]) .ret))))))))
def passkeylaw37SharingAddsRr : List RR := [.t 10]
theorem passkeylaw37SharingAddsC : compFn Try.prog 8 passkeylaw37SharingAddsH = some (passkeylaw37SharingAddsRc, passkeylaw37SharingAddsRr, 152) := by kernel_rfl
theorem passkeylaw37SharingAddsOK (a0 : List (BitVec 8)) (a1 : List (BitVec 8)) (a2 : List (BitVec 8)) (a3 : List (BitVec 8)) (a4 : BitVec 8) (res : Bool) (h : passkeylaw37SharingAdds a0 a1 a2 a3 a4 = some res) : CallOK Try.prog 8 [.d ((eL 1 eU8) a0), .d ((eL 1 eU8) a1), .d ((eL 1 eU8) a2), .d ((eL 1 eU8) a3), .d (eU8 a4)] [] (.d (eB res)) [] := by
  unfold passkeylaw37SharingAdds at h
  refine callOK passkeylaw37SharingAddsC fm rfl ?_
  simp only [initE, initM, nbor, List.map_cons, List.map_nil, Nat.reduceAdd]
  unfold passkeylaw37SharingAddsRc
  refine rwp_seq fun K1 hK1 => ?_
  refine rwp_region fun K2 hK2 => ?_
  refine st0 128 rfl (ok (mv (.d (eB false)))) ?_
  refine hK2 _ _ ?_
  simp only [thenK, blockK, keepE, updM, List.filter_cons, List.filter_nil, List.nil_append, List.cons_append, List.map_cons, List.map_nil, envE, Mem.get, Nat.reduceEqDiff, reduceIte, Option.isNone_none, Option.isNone_some, Bool.false_eq_true, List.length_cons, List.length_nil, Nat.reduceAdd, Nat.reduceMul]
  refine hK1 _ _ _ ?_
  refine rwp_seq fun K3 hK3 => ?_
  refine rwp_region fun K4 hK4 => ?_
  refine st0 192 rfl (ok (mv (.d (eU8 a4)))) ?_
  refine st0 256 rfl (ok (rem8 _ (5#8) (by decide))) ?_
  refine st0 320 rfl (ok (toI8 _)) ?_
  refine st0 384 rfl (ok (addI (1 : Int) _)) ?_
  refine st0 448 rfl (ok (mv (.d (eI (w64 ((1 : Int) + ((a4 % (5#8)).toNat : Int))))))) ?_
  refine hK4 _ _ ?_
  simp only [thenK, blockK, keepE, updM, List.filter_cons, List.filter_nil, List.nil_append, List.cons_append, List.map_cons, List.map_nil, envE, Mem.get, Nat.reduceEqDiff, reduceIte, Option.isNone_none, Option.isNone_some, Bool.false_eq_true, List.length_cons, List.length_nil, Nat.reduceAdd, Nat.reduceMul]
  refine hK3 _ _ _ ?_
  refine rwp_seq fun K5 hK5 => ?_
  refine rwp_join ([], []) 2560 (fun env mem => ∃ (v6 : Bool), passkeylaw37SharingAddsJ1 a0 a1 a2 a3 a4 v6 = some res ∧ env = [(0, .d ((eL 1 eU8) a0)), (1, .d ((eL 1 eU8) a1)), (2, .d ((eL 1 eU8) a2)), (3, .d ((eL 1 eU8) a3)), (11, .d (eI (w64 ((1 : Int) + ((a4 % (5#8)).toNat : Int))))), (54, .d (eB v6))] ∧ mem = []) (fun _ _ hI => ?_) (fun K7 hK7 => ?_)
  · obtain ⟨v6, h, rfl, rfl⟩ := hI
    unfold passkeylaw37SharingAddsJ1 at h
    rcases Bool.eq_false_or_eq_true (v6) with h8 | h8
    · replace h := ite_t h h8
      refine rwp_t (isT h8) ?_
      refine rwp_seq fun K9 hK9 => ?_
      refine rwp_region fun K10 hK10 => ?_
      obtain ⟨y11, h12, h⟩ := bind_inv h
      refine st0 2624 rfl (call_ok (v := .d (eB y11)) (u := []) ar_nil rfl (passkeylaw37awakeOK  y11 h12) rfl) ?_
      refine st0 2688 rfl (ok (mv (.d (eB y11)))) ?_
      refine hK10 _ _ ?_
      simp only [thenK, blockK, keepE, updM, List.filter_cons, List.filter_nil, List.nil_append, List.cons_append, List.map_cons, List.map_nil, envE, Mem.get, Nat.reduceEqDiff, reduceIte, Option.isNone_none, Option.isNone_some, Bool.false_eq_true, List.length_cons, List.length_nil, Nat.reduceAdd, Nat.reduceMul]
      refine hK9 _ _ _ ?_
      refine rwp_ret ?_
      obtain rfl := Option.some.inj h
      try simp only [thenK, blockK, reduceIte]
      exact end_ok trivial (rs_t (v := .d (eB y11)) rfl rs_nil) (en_d (to_d _) en_nil) ou_nil (by first | exact eok rfl rfl rfl rfl trivial | (refine eok ?_ ?_ ?_ ?_ ?_ <;> first | rfl | exact trivial | simp [retM, Mem.get, PV.renL, PV.ren, Blk.ren, comps, rhoR, rhoM, appN, PV.refsL, PV.refs, keys, nodupB, Blk.refs, allIn, Blk.bor]))
    · replace h := ite_f h h8
      refine rwp_f (isF h8) ?_
      refine rwp_skip ?_
      refine hK5 _ _ _ ?_
      refine rwp_seq fun K13 hK13 => ?_
      refine rwp_region fun K14 hK14 => ?_
      refine st0 2624 rfl (ok (mv (.d ((eL 1 eU8) a0)))) ?_
      refine st0 2688 rfl (ok (mv (.d ((eL 1 eU8) a2)))) ?_
      refine st0 2752 rfl (ok (mv (.d (eI (w64 ((1 : Int) + ((a4 % (5#8)).toNat : Int))))))) ?_
      obtain ⟨y15, h16, h⟩ := bind_inv h
      refine st1 2816 rfl (mem' := [(2752, .row true 2 (y15.1.map eTApiShare))]) (call_ok (v := .tup [.ref 2752 y15.1.length 0 y15.1.length, .d (eI y15.2)]) (u := [(2752, .row true 2 (y15.1.map eTApiShare))]) (ar_d ((eL 1 eU8) a0) (ar_d ((eL 1 eU8) a2) (ar_d (eI (w64 ((1 : Int) + ((a4 % (5#8)).toNat : Int)))) (ar_d (eI (6 : Int)) ar_nil)))) rfl (sharingSplitOK a0 a2 (w64 ((1 : Int) + ((a4 % (5#8)).toNat : Int))) (6 : Int) y15 h16) rfl) rfl ?_
      refine st0 2880 rfl (ok (mv (.tup [.ref 2752 y15.1.length 0 y15.1.length, .d (eI y15.2)]))) ?_
      refine st0 2944 rfl (ok (extr (v := .ref 2752 y15.1.length 0 y15.1.length) rfl rfl)) ?_
      refine st0 3008 rfl (ok (extr (v := .d (eI y15.2)) rfl rfl)) ?_
      refine st0 3072 rfl (ok (mv (.ref 2752 y15.1.length 0 y15.1.length))) ?_
      refine st0 3136 rfl (ok (mv (.d (eI y15.2)))) ?_
      refine hK14 _ _ ?_
      simp only [thenK, blockK, keepE, updM, List.filter_cons, List.filter_nil, List.nil_append, List.cons_append, List.map_cons, List.map_nil, envE, Mem.get, Nat.reduceEqDiff, reduceIte, Option.isNone_none, Option.isNone_some, Bool.false_eq_true, List.length_cons, List.length_nil, Nat.reduceAdd, Nat.reduceMul]
      refine hK13 _ _ _ ?_
      refine rwp_seq fun K17 hK17 => ?_
      refine rwp_region fun K18 hK18 => ?_
      refine st0 3200 rfl (ok (mv (.d ((eL 1 eU8) a1)))) ?_
      refine st0 3264 rfl (ok (mv (.d ((eL 1 eU8) a3)))) ?_
      refine st0 3328 rfl (ok (mv (.d (eI (w64 ((1 : Int) + ((a4 % (5#8)).toNat : Int))))))) ?_
      obtain ⟨y19, h20, h⟩ := bind_inv h
      refine st1 3392 rfl (mem' := [(3328, .row true 2 (y19.1.map eTApiShare)), (2752, .row true 2 (y15.1.map eTApiShare))]) (call_ok (v := .tup [.ref 3328 y19.1.length 0 y19.1.length, .d (eI y19.2)]) (u := [(3328, .row true 2 (y19.1.map eTApiShare))]) (ar_d ((eL 1 eU8) a1) (ar_d ((eL 1 eU8) a3) (ar_d (eI (w64 ((1 : Int) + ((a4 % (5#8)).toNat : Int)))) (ar_d (eI (6 : Int)) ar_nil)))) rfl (sharingSplitOK a1 a3 (w64 ((1 : Int) + ((a4 % (5#8)).toNat : Int))) (6 : Int) y19 h20) rfl) rfl ?_
      refine st0 3456 rfl (ok (mv (.tup [.ref 3328 y19.1.length 0 y19.1.length, .d (eI y19.2)]))) ?_
      refine st0 3520 rfl (ok (extr (v := .ref 3328 y19.1.length 0 y19.1.length) rfl rfl)) ?_
      refine st0 3584 rfl (ok (extr (v := .d (eI y19.2)) rfl rfl)) ?_
      refine st0 3648 rfl (ok (mv (.ref 3328 y19.1.length 0 y19.1.length))) ?_
      refine st0 3712 rfl (ok (mv (.d (eI y19.2)))) ?_
      refine hK18 _ _ ?_
      simp only [thenK, blockK, keepE, updM, List.filter_cons, List.filter_nil, List.nil_append, List.cons_append, List.map_cons, List.map_nil, envE, Mem.get, Nat.reduceEqDiff, reduceIte, Option.isNone_none, Option.isNone_some, Bool.false_eq_true, List.length_cons, List.length_nil, Nat.reduceAdd, Nat.reduceMul]
      refine hK17 _ _ _ ?_
      refine rwp_seq fun K21 hK21 => ?_
      refine rwp_region fun K22 hK22 => ?_
      refine st0 3776 rfl (ok (mv (.d ((eL 1 eU8) a0)))) ?_
      refine st0 3840 rfl (ok (mv (.d ((eL 1 eU8) a1)))) ?_
      obtain ⟨y23, h24, h⟩ := bind_inv h
      refine st1 3904 rfl (mem' := [(3840, .row true 1 (y23.map eU8)), (3328, .row true 2 (y19.1.map eTApiShare)), (2752, .row true 2 (y15.1.map eTApiShare))]) (call_ok (v := .ref 3840 y23.length 0 y23.length) (u := [(3840, .row true 1 (y23.map eU8))]) (ar_d ((eL 1 eU8) a0) (ar_d ((eL 1 eU8) a1) ar_nil)) rfl (passkeylaw37sumOK a0 a1 y23 h24) rfl) rfl ?_
      refine st0 3968 rfl (ok (mv (.d ((eL 1 eU8) a2)))) ?_
      refine st0 4032 rfl (ok (mv (.d ((eL 1 eU8) a3)))) ?_
      obtain ⟨y25, h26, h⟩ := bind_inv h
      refine st1 4096 rfl (mem' := [(4032, .row true 1 (y25.map eU8)), (3840, .row true 1 (y23.map eU8)), (3328, .row true 2 (y19.1.map eTApiShare)), (2752, .row true 2 (y15.1.map eTApiShare))]) (call_ok (v := .ref 4032 y25.length 0 y25.length) (u := [(4032, .row true 1 (y25.map eU8))]) (ar_d ((eL 1 eU8) a2) (ar_d ((eL 1 eU8) a3) ar_nil)) rfl (passkeylaw37sumOK a2 a3 y25 h26) rfl) rfl ?_
      refine st0 4160 rfl (ok (mv (.d (eI (w64 ((1 : Int) + ((a4 % (5#8)).toNat : Int))))))) ?_
      obtain ⟨y27, h28, h⟩ := bind_inv h
      refine st1 4224 rfl (mem' := [(4160, .row true 2 (y27.1.map eTApiShare)), (3840, .row false 1 (y23.map eU8)), (4032, .row false 1 (y25.map eU8)), (3328, .row true 2 (y19.1.map eTApiShare)), (2752, .row true 2 (y15.1.map eTApiShare))]) (call_ok (v := .tup [.ref 4160 y27.1.length 0 y27.1.length, .d (eI y27.2)]) (u := [(4160, .row true 2 (y27.1.map eTApiShare)), (3840, .row false 1 (y23.map eU8)), (4032, .row false 1 (y25.map eU8))]) (ar_to rfl (to_1 rfl (ds_r (ys := y23) rfl rfl rfl ds_nil)) (ar_to rfl (to_1 rfl (ds_r (ys := y25) rfl rfl rfl ds_nil)) (ar_d (eI (w64 ((1 : Int) + ((a4 % (5#8)).toNat : Int)))) (ar_d (eI (6 : Int)) ar_nil)))) rfl (sharingSplitOK y23 y25 (w64 ((1 : Int) + ((a4 % (5#8)).toNat : Int))) (6 : Int) y27 h28) rfl) rfl ?_
      refine st0 4288 rfl (ok (mv (.tup [.ref 4160 y27.1.length 0 y27.1.length, .d (eI y27.2)]))) ?_
      refine st0 4352 rfl (ok (extr (v := .ref 4160 y27.1.length 0 y27.1.length) rfl rfl)) ?_
      refine st0 4416 rfl (ok (extr (v := .d (eI y27.2)) rfl rfl)) ?_
      refine st0 4480 rfl (ok (mv (.ref 4160 y27.1.length 0 y27.1.length))) ?_
      refine st0 4544 rfl (ok (mv (.d (eI y27.2)))) ?_
      refine hK22 _ _ ?_
      simp only [thenK, blockK, keepE, updM, List.filter_cons, List.filter_nil, List.nil_append, List.cons_append, List.map_cons, List.map_nil, envE, Mem.get, Nat.reduceEqDiff, reduceIte, Option.isNone_none, Option.isNone_some, Bool.false_eq_true, List.length_cons, List.length_nil, Nat.reduceAdd, Nat.reduceMul]
      refine hK21 _ _ _ ?_
      refine rwp_seq fun K29 hK29 => ?_
      refine rwp_join ([], []) 6208 (fun env mem => ∃ (v30 : Bool), passkeylaw37SharingAddsJ2 a0 y15 y19 y27 v30 = some res ∧ env = [(0, .d ((eL 1 eU8) a0)), (12, .ref 2752 y15.1.length 0 y15.1.length), (14, .ref 3328 y19.1.length 0 y19.1.length), (16, .ref 4160 y27.1.length 0 y27.1.length), (105, .d (eB v30))] ∧ mem = [(2752, .row true 2 (y15.1.map eTApiShare)), (3328, .row true 2 (y19.1.map eTApiShare)), (4160, .row true 2 (y27.1.map eTApiShare))]) (fun _ _ hI => ?_) (fun K31 hK31 => ?_)
      · obtain ⟨v30, h, rfl, rfl⟩ := hI
        unfold passkeylaw37SharingAddsJ2 at h
        rcases Bool.eq_false_or_eq_true (v30) with h32 | h32
        · replace h := ite_t h h32
          refine rwp_t (isT h32) ?_
          refine rwp_seq fun K33 hK33 => ?_
          refine rwp_region fun K34 hK34 => ?_
          refine st0 6272 rfl (ok (mv (.d (eB false)))) ?_
          refine hK34 _ _ ?_
          simp only [thenK, blockK, keepE, updM, List.filter_cons, List.filter_nil, List.nil_append, List.cons_append, List.map_cons, List.map_nil, envE, Mem.get, Nat.reduceEqDiff, reduceIte, Option.isNone_none, Option.isNone_some, Bool.false_eq_true, List.length_cons, List.length_nil, Nat.reduceAdd, Nat.reduceMul]
          refine hK33 _ _ _ ?_
          refine rwp_ret ?_
          obtain rfl := Option.some.inj h
          try simp only [thenK, blockK, reduceIte]
          exact end_ok trivial (rs_t (v := .d (eB false)) rfl rs_nil) (en_d (to_d _) en_nil) ou_nil (by first | exact eok rfl rfl rfl rfl trivial | (refine eok ?_ ?_ ?_ ?_ ?_ <;> first | rfl | exact trivial | simp [retM, Mem.get, PV.renL, PV.ren, Blk.ren, comps, rhoR, rhoM, appN, PV.refsL, PV.refs, keys, nodupB, Blk.refs, allIn, Blk.bor]))
        · replace h := ite_f h h32
          refine rwp_f (isF h32) ?_
          refine rwp_skip ?_
          refine hK29 _ _ _ ?_
          refine rwp_join ([], []) 9600 (fun env mem => passkeylaw37SharingAddsJ3 = some res ∧ env = [] ∧ mem = []) (fun _ _ hI => ?_) (fun K35 hK35 => ?_)
          · obtain ⟨h, rfl, rfl⟩ := hI
            unfold passkeylaw37SharingAddsJ3 at h
            refine rwp_seq fun K36 hK36 => ?_
            refine rwp_region fun K37 hK37 => ?_
            obtain ⟨y38, h39, h⟩ := bind_inv h
            refine st0 9664 rfl (call_ok (v := .d (eB y38)) (u := []) ar_nil rfl (passkeylaw37awakeOK  y38 h39) rfl) ?_
            refine st0 9728 rfl (ok (mv (.d (eB y38)))) ?_
            refine hK37 _ _ ?_
            simp only [thenK, blockK, keepE, updM, List.filter_cons, List.filter_nil, List.nil_append, List.cons_append, List.map_cons, List.map_nil, envE, Mem.get, Nat.reduceEqDiff, reduceIte, Option.isNone_none, Option.isNone_some, Bool.false_eq_true, List.length_cons, List.length_nil, Nat.reduceAdd, Nat.reduceMul]
            refine hK36 _ _ _ ?_
            refine rwp_ret ?_
            obtain rfl := Option.some.inj h
            try simp only [thenK, blockK, reduceIte]
            exact end_ok trivial (rs_t (v := .d (eB y38)) rfl rs_nil) (en_d (to_d _) en_nil) ou_nil (by first | exact eok rfl rfl rfl rfl trivial | (refine eok ?_ ?_ ?_ ?_ ?_ <;> first | rfl | exact trivial | simp [retM, Mem.get, PV.renL, PV.ren, Blk.ren, comps, rhoR, rhoM, appN, PV.refsL, PV.refs, keys, nodupB, Blk.refs, allIn, Blk.bor]))
          · refine rwp_seq fun K40 hK40 => ?_
            refine rwp_region fun K41 hK41 => ?_
            refine st0 6272 rfl (ok (mv (.d (eI (0 : Int))))) ?_
            refine hK41 _ _ ?_
            simp only [thenK, blockK, keepE, updM, List.filter_cons, List.filter_nil, List.nil_append, List.cons_append, List.map_cons, List.map_nil, envE, Mem.get, Nat.reduceEqDiff, reduceIte, Option.isNone_none, Option.isNone_some, Bool.false_eq_true, List.length_cons, List.length_nil, Nat.reduceAdd, Nat.reduceMul]
            refine hK40 _ _ _ ?_
            refine rwp_block fun K42 hK42 => ?_
            refine rwp_loop ([], []) 9408 (fun k env mem => ∃ (v43 : Int), passkeylaw37SharingAddsL4 a0 y15 y19 y27 k v43 = some res ∧ env = [(0, .d ((eL 1 eU8) a0)), (12, .ref 2752 y15.1.length 0 y15.1.length), (14, .ref 3328 y19.1.length 0 y19.1.length), (16, .ref 4160 y27.1.length 0 y27.1.length), (18, .d (eI v43))] ∧ mem = [(2752, .row true 2 (y15.1.map eTApiShare)), (3328, .row true 2 (y19.1.map eTApiShare)), (4160, .row true 2 (y27.1.map eTApiShare))]) FUEL ⟨_, _, Settled.refl, _, _, ⟨_, h, rfl, rfl⟩, ⟨rfl, ⟨⟨rfl, rfl⟩, ⟨⟨rfl, rfl⟩, ⟨⟨rfl, rfl⟩, ⟨⟨rfl, rfl⟩, ⟨⟨rfl, rfl⟩, trivial⟩⟩⟩⟩⟩, ⟨⟨rfl, rfl⟩, ⟨⟨rfl, rfl⟩, ⟨⟨rfl, rfl⟩, trivial⟩⟩⟩⟩, rfl⟩ (fun k4 env1 mem1 hI K44 hK44 => ?_)
            obtain ⟨v43, h, rfl, rfl⟩ := hI
            cases k4 with
            | zero => simp [passkeylaw37SharingAddsL4] at h
            | succ k4 =>
              rw [passkeylaw37SharingAddsL4] at h
              refine rwp_seq fun K45 hK45 => ?_
              refine rwp_seq fun K46 hK46 => ?_
              refine rwp_region fun K47 hK47 => ?_
              refine st0 9472 rfl (ok (mv (.d (eI v43)))) ?_
              refine st0 9536 rfl (ok (lssI _ (6 : Int))) ?_
              refine hK47 _ _ ?_
              simp only [thenK, blockK, keepE, updM, List.filter_cons, List.filter_nil, List.nil_append, List.cons_append, List.map_cons, List.map_nil, envE, Mem.get, Nat.reduceEqDiff, reduceIte, Option.isNone_none, Option.isNone_some, Bool.false_eq_true, List.length_cons, List.length_nil, Nat.reduceAdd, Nat.reduceMul]
              refine hK46 _ _ _ ?_
              rcases Bool.eq_false_or_eq_true ((decide (v43 < (6 : Int)))) with h48 | h48
              · replace h := ite_t h h48
                refine rwp_t (isT h48) ?_
                refine rwp_skip ?_
                refine hK45 _ _ _ ?_
                refine rwp_seq fun K49 hK49 => ?_
                refine rwp_block fun K50 hK50 => ?_
                refine rwp_join ([], []) 12224 (fun env mem => ∃ (v51 : Bool), passkeylaw37SharingAddsJ5 (passkeylaw37SharingAddsL4 a0 y15 y19 y27 k4) v43 v51 = some res ∧ env = [(0, .d ((eL 1 eU8) a0)), (12, .ref 2752 y15.1.length 0 y15.1.length), (14, .ref 3328 y19.1.length 0 y19.1.length), (16, .ref 4160 y27.1.length 0 y27.1.length), (18, .d (eI v43)), (150, .d (eB v51))] ∧ mem = [(2752, .row true 2 (y15.1.map eTApiShare)), (3328, .row true 2 (y19.1.map eTApiShare)), (4160, .row true 2 (y27.1.map eTApiShare))]) (fun _ _ hI => ?_) (fun K52 hK52 => ?_)
                · obtain ⟨v51, h, rfl, rfl⟩ := hI
                  unfold passkeylaw37SharingAddsJ5 at h
                  rcases Bool.eq_false_or_eq_true (v51) with h53 | h53
                  · replace h := ite_t h h53
                    refine rwp_t (isT h53) ?_
                    refine rwp_seq fun K54 hK54 => ?_
                    refine rwp_region fun K55 hK55 => ?_
                    refine st0 12288 rfl (ok (mv (.d (eB false)))) ?_
                    refine hK55 _ _ ?_
                    simp only [thenK, blockK, keepE, updM, List.filter_cons, List.filter_nil, List.nil_append, List.cons_append, List.map_cons, List.map_nil, envE, Mem.get, Nat.reduceEqDiff, reduceIte, Option.isNone_none, Option.isNone_some, Bool.false_eq_true, List.length_cons, List.length_nil, Nat.reduceAdd, Nat.reduceMul]
                    refine hK54 _ _ _ ?_
                    refine rwp_ret ?_
                    obtain rfl := Option.some.inj h
                    try simp only [thenK, blockK, reduceIte]
                    exact end_ok trivial (rs_t (v := .d (eB false)) rfl rs_nil) (en_d (to_d _) en_nil) ou_nil (by first | exact eok rfl rfl rfl rfl trivial | (refine eok ?_ ?_ ?_ ?_ ?_ <;> first | rfl | exact trivial | simp [retM, Mem.get, PV.renL, PV.ren, Blk.ren, comps, rhoR, rhoM, appN, PV.refsL, PV.refs, keys, nodupB, Blk.refs, allIn, Blk.bor]))
                  · replace h := ite_f h h53
                    refine rwp_f (isF h53) ?_
                    refine rwp_skip ?_
                    refine hK50 _ _ _ ?_
                    refine hK49 _ _ _ ?_
                    refine rwp_region fun K56 hK56 => ?_
                    refine st0 12288 rfl (ok (mv (.d (eI v43)))) ?_
                    refine st0 12352 rfl (ok (addI _ (1 : Int))) ?_
                    refine st0 12416 rfl (ok (mv (.d (eI (w64 (v43 + (1 : Int))))))) ?_
                    refine hK56 _ _ ?_
                    simp only [thenK, blockK, keepE, updM, List.filter_cons, List.filter_nil, List.nil_append, List.cons_append, List.map_cons, List.map_nil, envE, Mem.get, Nat.reduceEqDiff, reduceIte, Option.isNone_none, Option.isNone_some, Bool.false_eq_true, List.length_cons, List.length_nil, Nat.reduceAdd, Nat.reduceMul]
                    exact hK44.out _ _ _ k4 (Nat.lt_succ_self k4) ⟨_, _, Settled.refl, _, _, ⟨_, h, rfl, rfl⟩, ⟨rfl, ⟨⟨rfl, rfl⟩, ⟨⟨rfl, rfl⟩, ⟨⟨rfl, rfl⟩, ⟨⟨rfl, rfl⟩, ⟨⟨rfl, rfl⟩, trivial⟩⟩⟩⟩⟩, ⟨⟨rfl, rfl⟩, ⟨⟨rfl, rfl⟩, ⟨⟨rfl, rfl⟩, trivial⟩⟩⟩⟩, rfl⟩
                · refine rwp_draw fun K57 hK57 => ?_
                  refine dr0 9600 rfl (ok (mv (.ref 2752 y15.1.length 0 y15.1.length))) (by kernel_rfl) ?_
                  refine dr0 9664 rfl (ok (mv (.d (eI v43)))) (by kernel_rfl) ?_
                  obtain ⟨h58, h⟩ := asq_inv h
                  refine dr0 9728 rfl (ok (iaR (xs := y15.1) (e := eTApiShare) rfl rfl h58)) (by kernel_rfl) ?_
                  refine dr0 9792 rfl (ok (fa_rk 1 rfl)) (by kernel_rfl) ?_
                  refine dr0 9856 rfl (ok (ld_rp (e := eTApiShare) (xs := y15.1) (v := (eL 1 eU8) ((y15.1.getD (0 + v43.toNat) (TApiShare.mk (0 : Int) ([] : List (BitVec 8)))).Data)) (TApiShare.mk (0 : Int) ([] : List (BitVec 8))) rfl rfl (by have := h58; simp at this ⊢; omega) rfl rfl rfl rfl)) (by kernel_rfl) ?_
                  refine dr0 9920 rfl (ok (lenL _ _)) (by kernel_rfl) ?_
                  refine dr0 9984 rfl (ok (mv (.d ((eL 1 eU8) a0)))) (by kernel_rfl) ?_
                  refine dr0 10048 rfl (ok (lenL _ _)) (by kernel_rfl) ?_
                  refine dr0 10112 rfl (ok (neqI _ _)) (by kernel_rfl) ?_
                  refine dr0 10176 rfl (ok (mv (.d (eB (((((y15.1.getD (0 + v43.toNat) (TApiShare.mk (0 : Int) ([] : List (BitVec 8)))).Data)).length : Int) != (a0.length : Int)))))) (by kernel_rfl) ?_
                  rcases Bool.eq_false_or_eq_true ((((((y15.1.getD (0 + v43.toNat) (TApiShare.mk (0 : Int) ([] : List (BitVec 8)))).Data)).length : Int) != (a0.length : Int))) with h59 | h59
                  · replace h := ite_t h h59
                    refine drGN 10240 rfl rfl h59 ?_
                    refine drGN 10304 rfl rfl h59 ?_
                    refine drGN 10368 rfl rfl h59 ?_
                    refine drGN 10432 rfl rfl h59 ?_
                    refine drGN 10496 rfl rfl h59 ?_
                    refine drGN 10560 rfl rfl h59 ?_
                    refine drGN 10624 rfl rfl h59 ?_
                    refine drGN 10688 rfl rfl h59 ?_
                    refine drGN 10752 rfl rfl h59 ?_
                    refine dr0 10816 rfl (ok (pick_t h59 (.d (eB true)) _)) (by kernel_rfl) ?_
                    refine dr0 10880 rfl (ok (mv (.d (eB true)))) (by kernel_rfl) ?_
                    refine drGN 10944 rfl rfl rfl ?_
                    refine drGN 11008 rfl rfl rfl ?_
                    refine drGN 11072 rfl rfl rfl ?_
                    refine drGN 11136 rfl rfl rfl ?_
                    refine drGN 11200 rfl rfl rfl ?_
                    refine drGN 11264 rfl rfl rfl ?_
                    refine drGN 11328 rfl rfl rfl ?_
                    refine drGN 11392 rfl rfl rfl ?_
                    refine drGN 11456 rfl rfl rfl ?_
                    refine drGN 11520 rfl rfl rfl ?_
                    refine drGN 11584 rfl rfl rfl ?_
                    refine drGN 11648 rfl rfl rfl ?_
                    refine drGN 11712 rfl rfl rfl ?_
                    refine drGN 11776 rfl rfl rfl ?_
                    refine drGN 11840 rfl rfl rfl ?_
                    refine drGN 11904 rfl rfl rfl ?_
                    refine drGN 11968 rfl rfl rfl ?_
                    refine drGN 12032 rfl rfl rfl ?_
                    refine drGN 12096 rfl rfl rfl ?_
                    refine dr0 12160 rfl (ok (pick_t rfl (.d (eB true)) _)) (by kernel_rfl) ?_
                    refine hK57 _ _ ?_
                    simp only [thenK, blockK, keepE, updM, List.filter_cons, List.filter_nil, List.nil_append, List.cons_append, List.map_cons, List.map_nil, envE, Mem.get, Nat.reduceEqDiff, reduceIte, Option.isNone_none, Option.isNone_some, Bool.false_eq_true, List.length_cons, List.length_nil, Nat.reduceAdd, Nat.reduceMul]
                    exact hK52 _ _ _ ⟨_, _, Settled.refl, _, _, ⟨_, h, rfl, rfl⟩, ⟨rfl, ⟨⟨rfl, rfl⟩, ⟨⟨rfl, rfl⟩, ⟨⟨rfl, rfl⟩, ⟨⟨rfl, rfl⟩, ⟨⟨rfl, rfl⟩, ⟨⟨rfl, rfl⟩, trivial⟩⟩⟩⟩⟩⟩, ⟨⟨rfl, rfl⟩, ⟨⟨rfl, rfl⟩, ⟨⟨rfl, rfl⟩, trivial⟩⟩⟩⟩, rfl⟩
                  · replace h := ite_f h h59
                    refine drG (isF h59) ?_
                    refine dr0 10240 rfl (ok (mv (.ref 3328 y19.1.length 0 y19.1.length))) (by kernel_rfl) ?_
                    refine drG (isF h59) ?_
                    refine dr0 10304 rfl (ok (mv (.d (eI v43)))) (by kernel_rfl) ?_
                    refine drG (isF h59) ?_
                    obtain ⟨h60, h⟩ := asq_inv h
                    refine dr0 10368 rfl (ok (iaR (xs := y19.1) (e := eTApiShare) rfl rfl h60)) (by kernel_rfl) ?_
                    refine drG (isF h59) ?_
                    refine dr0 10432 rfl (ok (fa_rk 1 rfl)) (by kernel_rfl) ?_
                    refine drG (isF h59) ?_
                    refine dr0 10496 rfl (ok (ld_rp (e := eTApiShare) (xs := y19.1) (v := (eL 1 eU8) ((y19.1.getD (0 + v43.toNat) (TApiShare.mk (0 : Int) ([] : List (BitVec 8)))).Data)) (TApiShare.mk (0 : Int) ([] : List (BitVec 8))) rfl rfl (by have := h60; simp at this ⊢; omega) rfl rfl rfl rfl)) (by kernel_rfl) ?_
                    refine drG (isF h59) ?_
                    refine dr0 10560 rfl (ok (lenL _ _)) (by kernel_rfl) ?_
                    refine drG (isF h59) ?_
                    refine dr0 10624 rfl (ok (mv (.d ((eL 1 eU8) a0)))) (by kernel_rfl) ?_
                    refine drG (isF h59) ?_
                    refine dr0 10688 rfl (ok (lenL _ _)) (by kernel_rfl) ?_
                    refine drG (isF h59) ?_
                    refine dr0 10752 rfl (ok (neqI _ _)) (by kernel_rfl) ?_
                    refine dr0 10816 rfl (ok (pick_f h59 _ (.d (eB (((((y19.1.getD (0 + v43.toNat) (TApiShare.mk (0 : Int) ([] : List (BitVec 8)))).Data)).length : Int) != (a0.length : Int)))))) (by kernel_rfl) ?_
                    refine dr0 10880 rfl (ok (mv (.d (eB (((((y19.1.getD (0 + v43.toNat) (TApiShare.mk (0 : Int) ([] : List (BitVec 8)))).Data)).length : Int) != (a0.length : Int)))))) (by kernel_rfl) ?_
                    rcases Bool.eq_false_or_eq_true ((((((y19.1.getD (0 + v43.toNat) (TApiShare.mk (0 : Int) ([] : List (BitVec 8)))).Data)).length : Int) != (a0.length : Int))) with h61 | h61
                    · replace h := ite_t h h61
                      refine drGN 10944 rfl rfl h61 ?_
                      refine drGN 11008 rfl rfl h61 ?_
                      refine drGN 11072 rfl rfl h61 ?_
                      refine drGN 11136 rfl rfl h61 ?_
                      refine drGN 11200 rfl rfl h61 ?_
                      refine drGN 11264 rfl rfl h61 ?_
                      refine drGN 11328 rfl rfl h61 ?_
                      refine drGN 11392 rfl rfl h61 ?_
                      refine drGN 11456 rfl rfl h61 ?_
                      refine drGN 11520 rfl rfl h61 ?_
                      refine drGN 11584 rfl rfl h61 ?_
                      refine drGN 11648 rfl rfl h61 ?_
                      refine drGN 11712 rfl rfl h61 ?_
                      refine drGN 11776 rfl rfl h61 ?_
                      refine drGN 11840 rfl rfl h61 ?_
                      refine drGN 11904 rfl rfl h61 ?_
                      refine drGN 11968 rfl rfl h61 ?_
                      refine drGN 12032 rfl rfl h61 ?_
                      refine drGN 12096 rfl rfl h61 ?_
                      refine dr0 12160 rfl (ok (pick_t h61 (.d (eB true)) _)) (by kernel_rfl) ?_
                      refine hK57 _ _ ?_
                      simp only [thenK, blockK, keepE, updM, List.filter_cons, List.filter_nil, List.nil_append, List.cons_append, List.map_cons, List.map_nil, envE, Mem.get, Nat.reduceEqDiff, reduceIte, Option.isNone_none, Option.isNone_some, Bool.false_eq_true, List.length_cons, List.length_nil, Nat.reduceAdd, Nat.reduceMul]
                      exact hK52 _ _ _ ⟨_, _, Settled.refl, _, _, ⟨_, h, rfl, rfl⟩, ⟨rfl, ⟨⟨rfl, rfl⟩, ⟨⟨rfl, rfl⟩, ⟨⟨rfl, rfl⟩, ⟨⟨rfl, rfl⟩, ⟨⟨rfl, rfl⟩, ⟨⟨rfl, rfl⟩, trivial⟩⟩⟩⟩⟩⟩, ⟨⟨rfl, rfl⟩, ⟨⟨rfl, rfl⟩, ⟨⟨rfl, rfl⟩, trivial⟩⟩⟩⟩, rfl⟩
                    · replace h := ite_f h h61
                      refine drG (isF h61) ?_
                      refine dr0 10944 rfl (ok (mv (.ref 2752 y15.1.length 0 y15.1.length))) (by kernel_rfl) ?_
                      refine drG (isF h61) ?_
                      refine dr0 11008 rfl (ok (mv (.d (eI v43)))) (by kernel_rfl) ?_
                      refine drG (isF h61) ?_
                      obtain ⟨h62, h⟩ := asq_inv h
                      refine dr0 11072 rfl (ok (iaR (xs := y15.1) (e := eTApiShare) rfl rfl h62)) (by kernel_rfl) ?_
                      refine drG (isF h61) ?_
                      refine dr0 11136 rfl (ok (fa_rk 1 rfl)) (by kernel_rfl) ?_
                      refine drG (isF h61) ?_
                      refine dr0 11200 rfl (ok (ld_rp (e := eTApiShare) (xs := y15.1) (v := (eL 1 eU8) ((y15.1.getD (0 + v43.toNat) (TApiShare.mk (0 : Int) ([] : List (BitVec 8)))).Data)) (TApiShare.mk (0 : Int) ([] : List (BitVec 8))) rfl rfl (by have := h62; simp at this ⊢; omega) rfl rfl rfl rfl)) (by kernel_rfl) ?_
                      refine drG (isF h61) ?_
                      refine dr0 11264 rfl (ok (mv (.ref 3328 y19.1.length 0 y19.1.length))) (by kernel_rfl) ?_
                      refine drG (isF h61) ?_
                      refine dr0 11328 rfl (ok (mv (.d (eI v43)))) (by kernel_rfl) ?_
                      refine drG (isF h61) ?_
                      obtain ⟨h63, h⟩ := asq_inv h
                      refine dr0 11392 rfl (ok (iaR (xs := y19.1) (e := eTApiShare) rfl rfl h63)) (by kernel_rfl) ?_
                      refine drG (isF h61) ?_
                      refine dr0 11456 rfl (ok (fa_rk 1 rfl)) (by kernel_rfl) ?_
                      refine drG (isF h61) ?_
                      refine dr0 11520 rfl (ok (ld_rp (e := eTApiShare) (xs := y19.1) (v := (eL 1 eU8) ((y19.1.getD (0 + v43.toNat) (TApiShare.mk (0 : Int) ([] : List (BitVec 8)))).Data)) (TApiShare.mk (0 : Int) ([] : List (BitVec 8))) rfl rfl (by have := h63; simp at this ⊢; omega) rfl rfl rfl rfl)) (by kernel_rfl) ?_
                      refine drG (isF h61) ?_
                      obtain ⟨y64, h65, h⟩ := bind_inv h
                      refine dr1 11584 rfl (mem' := [(11520, .row true 1 (y64.map eU8)), (2752, .row true 2 (y15.1.map eTApiShare)), (3328, .row true 2 (y19.1.map eTApiShare)), (4160, .row true 2 (y27.1.map eTApiShare))]) (call_ok (v := .ref 11520 y64.length 0 y64.length) (u := [(11520, .row true 1 (y64.map eU8))]) (ar_d ((eL 1 eU8) ((y15.1.getD (0 + v43.toNat) (TApiShare.mk (0 : Int) ([] : List (BitVec 8)))).Data)) (ar_d ((eL 1 eU8) ((y19.1.getD (0 + v43.toNat) (TApiShare.mk (0 : Int) ([] : List (BitVec 8)))).Data)) ar_nil)) rfl (passkeylaw37sumOK ((y15.1.getD (0 + v43.toNat) (TApiShare.mk (0 : Int) ([] : List (BitVec 8)))).Data) ((y19.1.getD (0 + v43.toNat) (TApiShare.mk (0 : Int) ([] : List (BitVec 8)))).Data) y64 h65) rfl) rfl (by kernel_rfl) ?_
                      refine drG (isF h61) ?_
                      refine dr0 11648 rfl (ok (b2s (contR (xs := y64) rfl rfl rfl))) (by kernel_rfl) ?_
                      refine drG (isF h61) ?_
                      refine dr0 11712 rfl (ok (mv (.ref 4160 y27.1.length 0 y27.1.length))) (by kernel_rfl) ?_
                      refine drG (isF h61) ?_
                      refine dr0 11776 rfl (ok (mv (.d (eI v43)))) (by kernel_rfl) ?_
                      refine drG (isF h61) ?_
                      obtain ⟨h66, h⟩ := asq_inv h
                      refine dr0 11840 rfl (ok (iaR (xs := y27.1) (e := eTApiShare) rfl rfl h66)) (by kernel_rfl) ?_
                      refine drG (isF h61) ?_
                      refine dr0 11904 rfl (ok (fa_rk 1 rfl)) (by kernel_rfl) ?_
                      refine drG (isF h61) ?_
                      refine dr0 11968 rfl (ok (ld_rp (e := eTApiShare) (xs := y27.1) (v := (eL 1 eU8) ((y27.1.getD (0 + v43.toNat) (TApiShare.mk (0 : Int) ([] : List (BitVec 8)))).Data)) (TApiShare.mk (0 : Int) ([] : List (BitVec 8))) rfl rfl (by have := h66; simp at this ⊢; omega) rfl rfl rfl rfl)) (by kernel_rfl) ?_
                      refine drG (isF h61) ?_
                      refine dr0 12032 rfl (ok (b2s contL)) (by kernel_rfl) ?_
                      refine drG (isF h61) ?_
                      refine dr0 12096 rfl (ok (neqS y64 ((y27.1.getD (0 + v43.toNat) (TApiShare.mk (0 : Int) ([] : List (BitVec 8)))).Data))) (by kernel_rfl) ?_
                      refine dr0 12160 rfl (ok (pick_f h61 _ (.d (eB (!(y64 == ((y27.1.getD (0 + v43.toNat) (TApiShare.mk (0 : Int) ([] : List (BitVec 8)))).Data))))))) (by kernel_rfl) ?_
                      refine hK57 _ _ ?_
                      simp only [thenK, blockK, keepE, updM, List.filter_cons, List.filter_nil, List.nil_append, List.cons_append, List.map_cons, List.map_nil, envE, Mem.get, Nat.reduceEqDiff, reduceIte, Option.isNone_none, Option.isNone_some, Bool.false_eq_true, List.length_cons, List.length_nil, Nat.reduceAdd, Nat.reduceMul]
                      exact hK52 _ _ _ ⟨_, _, Settled.refl, _, _, ⟨_, h, rfl, rfl⟩, ⟨rfl, ⟨⟨rfl, rfl⟩, ⟨⟨rfl, rfl⟩, ⟨⟨rfl, rfl⟩, ⟨⟨rfl, rfl⟩, ⟨⟨rfl, rfl⟩, ⟨⟨rfl, rfl⟩, trivial⟩⟩⟩⟩⟩⟩, ⟨⟨rfl, rfl⟩, ⟨⟨rfl, rfl⟩, ⟨⟨rfl, rfl⟩, trivial⟩⟩⟩⟩, rfl⟩
              · replace h := ite_f h h48
                refine rwp_f (isF h48) ?_
                refine rwp_exit ?_
                refine hK42 _ _ _ ?_
                exact hK35 _ _ _ ⟨_, _, Settled.refl, _, _, ⟨h, rfl, rfl⟩, ⟨rfl, trivial, trivial⟩, rfl⟩
      · refine rwp_region fun K67 hK67 => ?_
        refine st0 4608 rfl (ok (mv (.d (eI y15.2)))) ?_
        refine st0 4672 rfl (ok (neqI _ (0 : Int))) ?_
        refine st0 4736 rfl (ok (mv (.d (eB (y15.2 != (0 : Int)))))) ?_
        rcases Bool.eq_false_or_eq_true ((y15.2 != (0 : Int))) with h68 | h68
        · replace h := ite_t h h68
          refine stGN 4800 rfl rfl h68 ?_
          refine stGN 4864 rfl rfl h68 ?_
          refine st0 4928 rfl (ok (pick_t h68 (.d (eB true)) _)) ?_
          refine st0 4992 rfl (ok (mv (.d (eB true)))) ?_
          refine stGN 5056 rfl rfl rfl ?_
          refine stGN 5120 rfl rfl rfl ?_
          refine st0 5184 rfl (ok (pick_t rfl (.d (eB true)) _)) ?_
          refine st0 5248 rfl (ok (mv (.d (eB true)))) ?_
          refine stGN 5312 rfl rfl rfl ?_
          refine stGN 5376 rfl rfl rfl ?_
          refine stGN 5440 rfl rfl rfl ?_
          refine st0 5504 rfl (ok (pick_t rfl (.d (eB true)) _)) ?_
          refine st0 5568 rfl (ok (mv (.d (eB true)))) ?_
          refine stGN 5632 rfl rfl rfl ?_
          refine stGN 5696 rfl rfl rfl ?_
          refine stGN 5760 rfl rfl rfl ?_
          refine st0 5824 rfl (ok (pick_t rfl (.d (eB true)) _)) ?_
          refine st0 5888 rfl (ok (mv (.d (eB true)))) ?_
          refine stGN 5952 rfl rfl rfl ?_
          refine stGN 6016 rfl rfl rfl ?_
          refine stGN 6080 rfl rfl rfl ?_
          refine st0 6144 rfl (ok (pick_t rfl (.d (eB true)) _)) ?_
          refine hK67 _ _ ?_
          simp only [thenK, blockK, keepE, updM, List.filter_cons, List.filter_nil, List.nil_append, List.cons_append, List.map_cons, List.map_nil, envE, Mem.get, Nat.reduceEqDiff, reduceIte, Option.isNone_none, Option.isNone_some, Bool.false_eq_true, List.length_cons, List.length_nil, Nat.reduceAdd, Nat.reduceMul]
          exact hK31 _ _ _ ⟨_, _, Settled.refl, _, _, ⟨_, h, rfl, rfl⟩, ⟨rfl, ⟨⟨rfl, rfl⟩, ⟨⟨rfl, rfl⟩, ⟨⟨rfl, rfl⟩, ⟨⟨rfl, rfl⟩, ⟨⟨rfl, rfl⟩, trivial⟩⟩⟩⟩⟩, ⟨⟨rfl, rfl⟩, ⟨⟨rfl, rfl⟩, ⟨⟨rfl, rfl⟩, trivial⟩⟩⟩⟩, rfl⟩
        · replace h := ite_f h h68
          refine stG (isF h68) ?_
          refine st0 4800 rfl (ok (mv (.d (eI y19.2)))) ?_
          refine stG (isF h68) ?_
          refine st0 4864 rfl (ok (neqI _ (0 : Int))) ?_
          refine st0 4928 rfl (ok (pick_f h68 _ (.d (eB (y19.2 != (0 : Int)))))) ?_
          refine st0 4992 rfl (ok (mv (.d (eB (y19.2 != (0 : Int)))))) ?_
          rcases Bool.eq_false_or_eq_true ((y19.2 != (0 : Int))) with h69 | h69
          · replace h := ite_t h h69
            refine stGN 5056 rfl rfl h69 ?_
            refine stGN 5120 rfl rfl h69 ?_
            refine st0 5184 rfl (ok (pick_t h69 (.d (eB true)) _)) ?_
            refine st0 5248 rfl (ok (mv (.d (eB true)))) ?_
            refine stGN 5312 rfl rfl rfl ?_
            refine stGN 5376 rfl rfl rfl ?_
            refine stGN 5440 rfl rfl rfl ?_
            refine st0 5504 rfl (ok (pick_t rfl (.d (eB true)) _)) ?_
            refine st0 5568 rfl (ok (mv (.d (eB true)))) ?_
            refine stGN 5632 rfl rfl rfl ?_
            refine stGN 5696 rfl rfl rfl ?_
            refine stGN 5760 rfl rfl rfl ?_
            refine st0 5824 rfl (ok (pick_t rfl (.d (eB true)) _)) ?_
            refine st0 5888 rfl (ok (mv (.d (eB true)))) ?_
            refine stGN 5952 rfl rfl rfl ?_
            refine stGN 6016 rfl rfl rfl ?_
            refine stGN 6080 rfl rfl rfl ?_
            refine st0 6144 rfl (ok (pick_t rfl (.d (eB true)) _)) ?_
            refine hK67 _ _ ?_
            simp only [thenK, blockK, keepE, updM, List.filter_cons, List.filter_nil, List.nil_append, List.cons_append, List.map_cons, List.map_nil, envE, Mem.get, Nat.reduceEqDiff, reduceIte, Option.isNone_none, Option.isNone_some, Bool.false_eq_true, List.length_cons, List.length_nil, Nat.reduceAdd, Nat.reduceMul]
            exact hK31 _ _ _ ⟨_, _, Settled.refl, _, _, ⟨_, h, rfl, rfl⟩, ⟨rfl, ⟨⟨rfl, rfl⟩, ⟨⟨rfl, rfl⟩, ⟨⟨rfl, rfl⟩, ⟨⟨rfl, rfl⟩, ⟨⟨rfl, rfl⟩, trivial⟩⟩⟩⟩⟩, ⟨⟨rfl, rfl⟩, ⟨⟨rfl, rfl⟩, ⟨⟨rfl, rfl⟩, trivial⟩⟩⟩⟩, rfl⟩
          · replace h := ite_f h h69
            refine stG (isF h69) ?_
            refine st0 5056 rfl (ok (mv (.d (eI y27.2)))) ?_
            refine stG (isF h69) ?_
            refine st0 5120 rfl (ok (neqI _ (0 : Int))) ?_
            refine st0 5184 rfl (ok (pick_f h69 _ (.d (eB (y27.2 != (0 : Int)))))) ?_
            refine st0 5248 rfl (ok (mv (.d (eB (y27.2 != (0 : Int)))))) ?_
            rcases Bool.eq_false_or_eq_true ((y27.2 != (0 : Int))) with h70 | h70
            · replace h := ite_t h h70
              refine stGN 5312 rfl rfl h70 ?_
              refine stGN 5376 rfl rfl h70 ?_
              refine stGN 5440 rfl rfl h70 ?_
              refine st0 5504 rfl (ok (pick_t h70 (.d (eB true)) _)) ?_
              refine st0 5568 rfl (ok (mv (.d (eB true)))) ?_
              refine stGN 5632 rfl rfl rfl ?_
              refine stGN 5696 rfl rfl rfl ?_
              refine stGN 5760 rfl rfl rfl ?_
              refine st0 5824 rfl (ok (pick_t rfl (.d (eB true)) _)) ?_
              refine st0 5888 rfl (ok (mv (.d (eB true)))) ?_
              refine stGN 5952 rfl rfl rfl ?_
              refine stGN 6016 rfl rfl rfl ?_
              refine stGN 6080 rfl rfl rfl ?_
              refine st0 6144 rfl (ok (pick_t rfl (.d (eB true)) _)) ?_
              refine hK67 _ _ ?_
              simp only [thenK, blockK, keepE, updM, List.filter_cons, List.filter_nil, List.nil_append, List.cons_append, List.map_cons, List.map_nil, envE, Mem.get, Nat.reduceEqDiff, reduceIte, Option.isNone_none, Option.isNone_some, Bool.false_eq_true, List.length_cons, List.length_nil, Nat.reduceAdd, Nat.reduceMul]
              exact hK31 _ _ _ ⟨_, _, Settled.refl, _, _, ⟨_, h, rfl, rfl⟩, ⟨rfl, ⟨⟨rfl, rfl⟩, ⟨⟨rfl, rfl⟩, ⟨⟨rfl, rfl⟩, ⟨⟨rfl, rfl⟩, ⟨⟨rfl, rfl⟩, trivial⟩⟩⟩⟩⟩, ⟨⟨rfl, rfl⟩, ⟨⟨rfl, rfl⟩, ⟨⟨rfl, rfl⟩, trivial⟩⟩⟩⟩, rfl⟩
            · replace h := ite_f h h70
              refine stG (isF h70) ?_
              refine st0 5312 rfl (ok (mv (.ref 2752 y15.1.length 0 y15.1.length))) ?_
              refine stG (isF h70) ?_
              refine st0 5376 rfl (ok (lenR _ _ _ _)) ?_
              refine stG (isF h70) ?_
              refine st0 5440 rfl (ok (neqI _ (6 : Int))) ?_
              refine st0 5504 rfl (ok (pick_f h70 _ (.d (eB ((y15.1.length : Int) != (6 : Int)))))) ?_
              refine st0 5568 rfl (ok (mv (.d (eB ((y15.1.length : Int) != (6 : Int)))))) ?_
              rcases Bool.eq_false_or_eq_true (((y15.1.length : Int) != (6 : Int))) with h71 | h71
              · replace h := ite_t h h71
                refine stGN 5632 rfl rfl h71 ?_
                refine stGN 5696 rfl rfl h71 ?_
                refine stGN 5760 rfl rfl h71 ?_
                refine st0 5824 rfl (ok (pick_t h71 (.d (eB true)) _)) ?_
                refine st0 5888 rfl (ok (mv (.d (eB true)))) ?_
                refine stGN 5952 rfl rfl rfl ?_
                refine stGN 6016 rfl rfl rfl ?_
                refine stGN 6080 rfl rfl rfl ?_
                refine st0 6144 rfl (ok (pick_t rfl (.d (eB true)) _)) ?_
                refine hK67 _ _ ?_
                simp only [thenK, blockK, keepE, updM, List.filter_cons, List.filter_nil, List.nil_append, List.cons_append, List.map_cons, List.map_nil, envE, Mem.get, Nat.reduceEqDiff, reduceIte, Option.isNone_none, Option.isNone_some, Bool.false_eq_true, List.length_cons, List.length_nil, Nat.reduceAdd, Nat.reduceMul]
                exact hK31 _ _ _ ⟨_, _, Settled.refl, _, _, ⟨_, h, rfl, rfl⟩, ⟨rfl, ⟨⟨rfl, rfl⟩, ⟨⟨rfl, rfl⟩, ⟨⟨rfl, rfl⟩, ⟨⟨rfl, rfl⟩, ⟨⟨rfl, rfl⟩, trivial⟩⟩⟩⟩⟩, ⟨⟨rfl, rfl⟩, ⟨⟨rfl, rfl⟩, ⟨⟨rfl, rfl⟩, trivial⟩⟩⟩⟩, rfl⟩
              · replace h := ite_f h h71
                refine stG (isF h71) ?_
                refine st0 5632 rfl (ok (mv (.ref 3328 y19.1.length 0 y19.1.length))) ?_
                refine stG (isF h71) ?_
                refine st0 5696 rfl (ok (lenR _ _ _ _)) ?_
                refine stG (isF h71) ?_
                refine st0 5760 rfl (ok (neqI _ (6 : Int))) ?_
                refine st0 5824 rfl (ok (pick_f h71 _ (.d (eB ((y19.1.length : Int) != (6 : Int)))))) ?_
                refine st0 5888 rfl (ok (mv (.d (eB ((y19.1.length : Int) != (6 : Int)))))) ?_
                rcases Bool.eq_false_or_eq_true (((y19.1.length : Int) != (6 : Int))) with h72 | h72
                · replace h := ite_t h h72
                  refine stGN 5952 rfl rfl h72 ?_
                  refine stGN 6016 rfl rfl h72 ?_
                  refine stGN 6080 rfl rfl h72 ?_
                  refine st0 6144 rfl (ok (pick_t h72 (.d (eB true)) _)) ?_
                  refine hK67 _ _ ?_
                  simp only [thenK, blockK, keepE, updM, List.filter_cons, List.filter_nil, List.nil_append, List.cons_append, List.map_cons, List.map_nil, envE, Mem.get, Nat.reduceEqDiff, reduceIte, Option.isNone_none, Option.isNone_some, Bool.false_eq_true, List.length_cons, List.length_nil, Nat.reduceAdd, Nat.reduceMul]
                  exact hK31 _ _ _ ⟨_, _, Settled.refl, _, _, ⟨_, h, rfl, rfl⟩, ⟨rfl, ⟨⟨rfl, rfl⟩, ⟨⟨rfl, rfl⟩, ⟨⟨rfl, rfl⟩, ⟨⟨rfl, rfl⟩, ⟨⟨rfl, rfl⟩, trivial⟩⟩⟩⟩⟩, ⟨⟨rfl, rfl⟩, ⟨⟨rfl, rfl⟩, ⟨⟨rfl, rfl⟩, trivial⟩⟩⟩⟩, rfl⟩
                · replace h := ite_f h h72
                  refine stG (isF h72) ?_
                  refine st0 5952 rfl (ok (mv (.ref 4160 y27.1.length 0 y27.1.length))) ?_
                  refine stG (isF h72) ?_
                  refine st0 6016 rfl (ok (lenR _ _ _ _)) ?_
                  refine stG (isF h72) ?_
                  refine st0 6080 rfl (ok (neqI _ (6 : Int))) ?_
                  refine st0 6144 rfl (ok (pick_f h72 _ (.d (eB ((y27.1.length : Int) != (6 : Int)))))) ?_
                  refine hK67 _ _ ?_
                  simp only [thenK, blockK, keepE, updM, List.filter_cons, List.filter_nil, List.nil_append, List.cons_append, List.map_cons, List.map_nil, envE, Mem.get, Nat.reduceEqDiff, reduceIte, Option.isNone_none, Option.isNone_some, Bool.false_eq_true, List.length_cons, List.length_nil, Nat.reduceAdd, Nat.reduceMul]
                  exact hK31 _ _ _ ⟨_, _, Settled.refl, _, _, ⟨_, h, rfl, rfl⟩, ⟨rfl, ⟨⟨rfl, rfl⟩, ⟨⟨rfl, rfl⟩, ⟨⟨rfl, rfl⟩, ⟨⟨rfl, rfl⟩, ⟨⟨rfl, rfl⟩, trivial⟩⟩⟩⟩⟩, ⟨⟨rfl, rfl⟩, ⟨⟨rfl, rfl⟩, ⟨⟨rfl, rfl⟩, trivial⟩⟩⟩⟩, rfl⟩
  · refine rwp_region fun K73 hK73 => ?_
    refine st0 512 rfl (ok (mv (.d ((eL 1 eU8) a0)))) ?_
    refine st0 576 rfl (ok (lenL _ _)) ?_
    refine st0 640 rfl (ok (mv (.d ((eL 1 eU8) a1)))) ?_
    refine st0 704 rfl (ok (lenL _ _)) ?_
    refine st0 768 rfl (ok (neqI _ _)) ?_
    refine st0 832 rfl (ok (mv (.d (eB ((a0.length : Int) != (a1.length : Int)))))) ?_
    rcases Bool.eq_false_or_eq_true (((a0.length : Int) != (a1.length : Int))) with h74 | h74
    · replace h := ite_t h h74
      refine stGN 896 rfl rfl h74 ?_
      refine stGN 960 rfl rfl h74 ?_
      refine stGN 1024 rfl rfl h74 ?_
      refine stGN 1088 rfl rfl h74 ?_
      refine stGN 1152 rfl rfl h74 ?_
      refine st0 1216 rfl (ok (pick_t h74 (.d (eB true)) _)) ?_
      refine st0 1280 rfl (ok (mv (.d (eB true)))) ?_
      refine stGN 1344 rfl rfl rfl ?_
      refine stGN 1408 rfl rfl rfl ?_
      refine stGN 1472 rfl rfl rfl ?_
      refine st0 1536 rfl (ok (pick_t rfl (.d (eB true)) _)) ?_
      refine st0 1600 rfl (ok (mv (.d (eB true)))) ?_
      refine stGN 1664 rfl rfl rfl ?_
      refine stGN 1728 rfl rfl rfl ?_
      refine stGN 1792 rfl rfl rfl ?_
      refine stGN 1856 rfl rfl rfl ?_
      refine stGN 1920 rfl rfl rfl ?_
      refine stGN 1984 rfl rfl rfl ?_
      refine stGN 2048 rfl rfl rfl ?_
      refine stGN 2112 rfl rfl rfl ?_
      refine st0 2176 rfl (ok (pick_t rfl (.d (eB true)) _)) ?_
      refine st0 2240 rfl (ok (mv (.d (eB true)))) ?_
      refine stGN 2304 rfl rfl rfl ?_
      refine stGN 2368 rfl rfl rfl ?_
      refine stGN 2432 rfl rfl rfl ?_
      refine st0 2496 rfl (ok (pick_t rfl (.d (eB true)) _)) ?_
      refine hK73 _ _ ?_
      simp only [thenK, blockK, keepE, updM, List.filter_cons, List.filter_nil, List.nil_append, List.cons_append, List.map_cons, List.map_nil, envE, Mem.get, Nat.reduceEqDiff, reduceIte, Option.isNone_none, Option.isNone_some, Bool.false_eq_true, List.length_cons, List.length_nil, Nat.reduceAdd, Nat.reduceMul]
      exact hK7 _ _ _ ⟨_, _, Settled.refl, _, _, ⟨_, h, rfl, rfl⟩, ⟨rfl, ⟨⟨rfl, rfl⟩, ⟨⟨rfl, rfl⟩, ⟨⟨rfl, rfl⟩, ⟨⟨rfl, rfl⟩, ⟨⟨rfl, rfl⟩, ⟨⟨rfl, rfl⟩, trivial⟩⟩⟩⟩⟩⟩, trivial⟩, rfl⟩
    · replace h := ite_f h h74
      refine stG (isF h74) ?_
      refine st0 896 rfl (ok (mv (.d ((eL 1 eU8) a2)))) ?_
      refine stG (isF h74) ?_
      refine st0 960 rfl (ok (lenL _ _)) ?_
      refine stG (isF h74) ?_
      refine st0 1024 rfl (ok (mv (.d ((eL 1 eU8) a3)))) ?_
      refine stG (isF h74) ?_
      refine st0 1088 rfl (ok (lenL _ _)) ?_
      refine stG (isF h74) ?_
      refine st0 1152 rfl (ok (neqI _ _)) ?_
      refine st0 1216 rfl (ok (pick_f h74 _ (.d (eB ((a2.length : Int) != (a3.length : Int)))))) ?_
      refine st0 1280 rfl (ok (mv (.d (eB ((a2.length : Int) != (a3.length : Int)))))) ?_
      rcases Bool.eq_false_or_eq_true (((a2.length : Int) != (a3.length : Int))) with h75 | h75
      · replace h := ite_t h h75
        refine stGN 1344 rfl rfl h75 ?_
        refine stGN 1408 rfl rfl h75 ?_
        refine stGN 1472 rfl rfl h75 ?_
        refine st0 1536 rfl (ok (pick_t h75 (.d (eB true)) _)) ?_
        refine st0 1600 rfl (ok (mv (.d (eB true)))) ?_
        refine stGN 1664 rfl rfl rfl ?_
        refine stGN 1728 rfl rfl rfl ?_
        refine stGN 1792 rfl rfl rfl ?_
        refine stGN 1856 rfl rfl rfl ?_
        refine stGN 1920 rfl rfl rfl ?_
        refine stGN 1984 rfl rfl rfl ?_
        refine stGN 2048 rfl rfl rfl ?_
        refine stGN 2112 rfl rfl rfl ?_
        refine st0 2176 rfl (ok (pick_t rfl (.d (eB true)) _)) ?_
        refine st0 2240 rfl (ok (mv (.d (eB true)))) ?_
        refine stGN 2304 rfl rfl rfl ?_
        refine stGN 2368 rfl rfl rfl ?_
        refine stGN 2432 rfl rfl rfl ?_
        refine st0 2496 rfl (ok (pick_t rfl (.d (eB true)) _)) ?_
        refine hK73 _ _ ?_
        simp only [thenK, blockK, keepE, updM, List.filter_cons, List.filter_nil, List.nil_append, List.cons_append, List.map_cons, List.map_nil, envE, Mem.get, Nat.reduceEqDiff, reduceIte, Option.isNone_none, Option.isNone_some, Bool.false_eq_true, List.length_cons, List.length_nil, Nat.reduceAdd, Nat.reduceMul]
        exact hK7 _ _ _ ⟨_, _, Settled.refl, _, _, ⟨_, h, rfl, rfl⟩, ⟨rfl, ⟨⟨rfl, rfl⟩, ⟨⟨rfl, rfl⟩, ⟨⟨rfl, rfl⟩, ⟨⟨rfl, rfl⟩, ⟨⟨rfl, rfl⟩, ⟨⟨rfl, rfl⟩, trivial⟩⟩⟩⟩⟩⟩, trivial⟩, rfl⟩
      · replace h := ite_f h h75
        refine stG (isF h75) ?_
        refine st0 1344 rfl (ok (mv (.d ((eL 1 eU8) a0)))) ?_
        refine stG (isF h75) ?_
        refine st0 1408 rfl (ok (lenL _ _)) ?_
        refine stG (isF h75) ?_
        refine st0 1472 rfl (ok (gtrI _ (12 : Int))) ?_
        refine st0 1536 rfl (ok (pick_f h75 _ (.d (eB (decide ((12 : Int) < (a0.length : Int))))))) ?_
        refine st0 1600 rfl (ok (mv (.d (eB (decide ((12 : Int) < (a0.length : Int))))))) ?_
        rcases Bool.eq_false_or_eq_true ((decide ((12 : Int) < (a0.length : Int)))) with h76 | h76
        · replace h := ite_t h h76
          refine stGN 1664 rfl rfl h76 ?_
          refine stGN 1728 rfl rfl h76 ?_
          refine stGN 1792 rfl rfl h76 ?_
          refine stGN 1856 rfl rfl h76 ?_
          refine stGN 1920 rfl rfl h76 ?_
          refine stGN 1984 rfl rfl h76 ?_
          refine stGN 2048 rfl rfl h76 ?_
          refine stGN 2112 rfl rfl h76 ?_
          refine st0 2176 rfl (ok (pick_t h76 (.d (eB true)) _)) ?_
          refine st0 2240 rfl (ok (mv (.d (eB true)))) ?_
          refine stGN 2304 rfl rfl rfl ?_
          refine stGN 2368 rfl rfl rfl ?_
          refine stGN 2432 rfl rfl rfl ?_
          refine st0 2496 rfl (ok (pick_t rfl (.d (eB true)) _)) ?_
          refine hK73 _ _ ?_
          simp only [thenK, blockK, keepE, updM, List.filter_cons, List.filter_nil, List.nil_append, List.cons_append, List.map_cons, List.map_nil, envE, Mem.get, Nat.reduceEqDiff, reduceIte, Option.isNone_none, Option.isNone_some, Bool.false_eq_true, List.length_cons, List.length_nil, Nat.reduceAdd, Nat.reduceMul]
          exact hK7 _ _ _ ⟨_, _, Settled.refl, _, _, ⟨_, h, rfl, rfl⟩, ⟨rfl, ⟨⟨rfl, rfl⟩, ⟨⟨rfl, rfl⟩, ⟨⟨rfl, rfl⟩, ⟨⟨rfl, rfl⟩, ⟨⟨rfl, rfl⟩, ⟨⟨rfl, rfl⟩, trivial⟩⟩⟩⟩⟩⟩, trivial⟩, rfl⟩
        · replace h := ite_f h h76
          refine stG (isF h76) ?_
          refine st0 1664 rfl (ok (mv (.d ((eL 1 eU8) a2)))) ?_
          refine stG (isF h76) ?_
          refine st0 1728 rfl (ok (lenL _ _)) ?_
          refine stG (isF h76) ?_
          refine st0 1792 rfl (ok (mv (.d (eI (w64 ((1 : Int) + ((a4 % (5#8)).toNat : Int))))))) ?_
          refine stG (isF h76) ?_
          obtain ⟨v77, h78, h⟩ := lett_inv h
          refine st0e 1856 rfl (ok (subI _ (1 : Int))) (congrArg (fun z => PV.d (eI z)) h78) ?_
          refine stG (isF h76) ?_
          refine st0 1920 rfl (ok (mv (.d ((eL 1 eU8) a0)))) ?_
          refine stG (isF h76) ?_
          refine st0 1984 rfl (ok (lenL _ _)) ?_
          refine stG (isF h76) ?_
          refine st0 2048 rfl (ok (mulI _ _)) ?_
          refine stG (isF h76) ?_
          refine st0 2112 rfl (ok (lssI _ _)) ?_
          refine st0 2176 rfl (ok (pick_f h76 _ (.d (eB (decide ((a2.length : Int) < (w64 (v77 * (a0.length : Int))))))))) ?_
          refine st0 2240 rfl (ok (mv (.d (eB (decide ((a2.length : Int) < (w64 (v77 * (a0.length : Int))))))))) ?_
          rcases Bool.eq_false_or_eq_true ((decide ((a2.length : Int) < (w64 (v77 * (a0.length : Int)))))) with h79 | h79
          · replace h := ite_t h h79
            refine stGN 2304 rfl rfl h79 ?_
            refine stGN 2368 rfl rfl h79 ?_
            refine stGN 2432 rfl rfl h79 ?_
            refine st0 2496 rfl (ok (pick_t h79 (.d (eB true)) _)) ?_
            refine hK73 _ _ ?_
            simp only [thenK, blockK, keepE, updM, List.filter_cons, List.filter_nil, List.nil_append, List.cons_append, List.map_cons, List.map_nil, envE, Mem.get, Nat.reduceEqDiff, reduceIte, Option.isNone_none, Option.isNone_some, Bool.false_eq_true, List.length_cons, List.length_nil, Nat.reduceAdd, Nat.reduceMul]
            exact hK7 _ _ _ ⟨_, _, Settled.refl, _, _, ⟨_, h, rfl, rfl⟩, ⟨rfl, ⟨⟨rfl, rfl⟩, ⟨⟨rfl, rfl⟩, ⟨⟨rfl, rfl⟩, ⟨⟨rfl, rfl⟩, ⟨⟨rfl, rfl⟩, ⟨⟨rfl, rfl⟩, trivial⟩⟩⟩⟩⟩⟩, trivial⟩, rfl⟩
          · replace h := ite_f h h79
            refine stG (isF h79) ?_
            refine st0 2304 rfl (ok (mv (.d ((eL 1 eU8) a2)))) ?_
            refine stG (isF h79) ?_
            refine st0 2368 rfl (ok (lenL _ _)) ?_
            refine stG (isF h79) ?_
            refine st0 2432 rfl (ok (gtrI _ (200 : Int))) ?_
            refine st0 2496 rfl (ok (pick_f h79 _ (.d (eB (decide ((200 : Int) < (a2.length : Int))))))) ?_
            refine hK73 _ _ ?_
            simp only [thenK, blockK, keepE, updM, List.filter_cons, List.filter_nil, List.nil_append, List.cons_append, List.map_cons, List.map_nil, envE, Mem.get, Nat.reduceEqDiff, reduceIte, Option.isNone_none, Option.isNone_some, Bool.false_eq_true, List.length_cons, List.length_nil, Nat.reduceAdd, Nat.reduceMul]
            exact hK7 _ _ _ ⟨_, _, Settled.refl, _, _, ⟨_, h, rfl, rfl⟩, ⟨rfl, ⟨⟨rfl, rfl⟩, ⟨⟨rfl, rfl⟩, ⟨⟨rfl, rfl⟩, ⟨⟨rfl, rfl⟩, ⟨⟨rfl, rfl⟩, ⟨⟨rfl, rfl⟩, trivial⟩⟩⟩⟩⟩⟩, trivial⟩, rfl⟩

end Go.Proofs.Ty
