/- Each Go function comes to what its plain function says. PRINTED by a program of this session (ty.py). -/
import Derived.Test.YtkiffaadahpbkaaS11
set_option linter.unusedVariables false
set_option linter.unusedSimpArgs false
set_option maxHeartbeats 4000000
set_option maxRecDepth 10000
namespace Go.Proofs.Ty
open Go Go.RW Go.Proofs
/-- passkey/passkeylaw37.SharingRestores -/
def passkeylaw37SharingRestoresH : Hints := ⟨[(0, [0, 1, 2, 3, 4]), (1, [0, 1, 2, 4, 11]), (2, [0, 1, 4, 11, 12]), (3, [0, 1, 4, 11, 12, 51]), (4, [10]), (5, [0, 4, 11, 12, 13, 14]), (6, [0, 4, 11, 12, 13, 68]), (7, [10]), (8, [0, 4, 11, 12, 13, 15]), (9, [0, 4, 11, 12, 13, 15, 16]), (10, [0, 4, 11, 12, 13, 15, 16, 17]), (11, [0, 4, 11, 12, 13, 15, 16, 17, 76]), (13, [0, 4, 11, 12, 13, 15, 16, 17, 18]), (14, [0, 4, 11, 12, 13, 15, 16, 17, 18, 89]), (15, [0, 4, 11, 12, 13, 15, 16, 17, 18]), (16, [0, 4, 11, 12, 13, 15, 16, 17]), (12, [0, 4, 11, 12, 13, 15, 16, 17]), (17, [0, 11, 12, 13, 15, 16, 19]), (18, [0, 11, 12, 13, 15, 16, 19, 107]), (20, [0, 11, 12, 13, 15, 16, 19, 113]), (21, [0, 11, 12, 13, 15, 16, 19]), (19, [0, 11, 12, 13, 15, 16, 19]), (22, [0, 11, 13, 15, 20, 21]), (23, [0, 11, 13, 15, 20, 21, 22]), (24, [0, 11, 13, 15, 20, 21, 22, 128]), (26, [0, 11, 13, 15, 20, 21, 22, 23, 24]), (27, [0, 11, 13, 15, 20, 21, 22, 153]), (28, [10]), (25, [0, 11, 13, 15, 20, 21, 22]), (29, [10])], []⟩
def passkeylaw37SharingRestoresRc : RCode :=
  .seq (.region false [⟨some 10, .mv, [.k (.d (.bool false))], none, []⟩] [0, 1, 2, 3, 4]) (.seq (.region false [⟨some 25, .mv, [.t 3], none, []⟩, ⟨some 26, .bin .rem, [.t 25, .k (.d
  (.int .u8 10))], none, []⟩, ⟨some 27, .cvt .i64, [.t 26], none, []⟩, ⟨some 28, .bin .add, [.k (.d (.int .i64 1)), .t 27], none, []⟩, ⟨some 11, .mv, [.t 28], none, []⟩] [0, 1, 2,
  4, 11]) (.seq (.region false [⟨some 29, .mv, [.t 2], none, []⟩, ⟨some 30, .cvt .i64, [.t 29], none, []⟩, ⟨some 31, .mv, [.t 11], none, []⟩, ⟨some 32, .bin .rem, [.t 30, .t 31],
  none, []⟩, ⟨some 33, .bin .add, [.k (.d (.int .i64 1)), .t 32], none, []⟩, ⟨some 12, .mv, [.t 33], none, []⟩] [0, 1, 4, 11, 12]) (.seq (.seq (.region false [⟨some 34, .mv, [.t
  0], none, []⟩, ⟨some 35, .len, [.t 34], none, []⟩, ⟨some 36, .bin .gtr, [.t 35, .k (.d (.int .i64 20))], none, []⟩, ⟨some 37, .mv, [.t 36], none, []⟩, ⟨some 38, .mv, [.t 1], some
  (37, false), []⟩, ⟨some 39, .len, [.t 38], some (37, false), []⟩, ⟨some 40, .mv, [.t 12], some (37, false), []⟩, ⟨some 41, .bin .sub, [.t 40, .k (.d (.int .i64 1))], some (37,
  false), []⟩, ⟨some 42, .mv, [.t 0], some (37, false), []⟩, ⟨some 43, .len, [.t 42], some (37, false), []⟩, ⟨some 44, .bin .mul, [.t 41, .t 43], some (37, false), []⟩, ⟨some 45,
  .bin .lss, [.t 39, .t 44], some (37, false), []⟩, ⟨some 46, .pick, [.t 37, .k (.d (.bool true)), .t 45], none, []⟩, ⟨some 47, .mv, [.t 46], none, []⟩, ⟨some 48, .mv, [.t 1], some
  (47, false), []⟩, ⟨some 49, .len, [.t 48], some (47, false), []⟩, ⟨some 50, .bin .gtr, [.t 49, .k (.d (.int .i64 400))], some (47, false), []⟩, ⟨some 51, .pick, [.t 47, .k (.d
  (.bool true)), .t 50], none, []⟩] [0, 1, 4, 11, 12, 51]) (.cond (.t 51) (.seq (.region false [⟨some 52, .call 13 false, [], none, []⟩, ⟨some 10, .mv, [.t 52], none, []⟩] [10])
  .ret) .skip)) (.seq (.region false [⟨some 54, .mv, [.t 0], none, []⟩, ⟨some 55, .mv, [.t 1], none, []⟩, ⟨some 56, .mv, [.t 12], none, []⟩, ⟨some 57, .mv, [.t 11], none, []⟩,
  ⟨some 58, .call 16 true, [.t 54, .t 55, .t 56, .t 57], none, []⟩, ⟨some 53, .mv, [.t 58], none, []⟩, ⟨some 59, .ext 0, [.t 53], none, []⟩, ⟨some 60, .ext 1, [.t 53], none, []⟩,
  ⟨some 13, .mv, [.t 59], none, []⟩, ⟨some 14, .mv, [.t 60], none, []⟩] [0, 4, 11, 12, 13, 14]) (.seq (.seq (.region false [⟨some 61, .mv, [.t 14], none, []⟩, ⟨some 62, .bin .neq,
  [.t 61, .k (.d (.int .i64 0))], none, []⟩, ⟨some 63, .mv, [.t 62], none, []⟩, ⟨some 64, .mv, [.t 13], some (63, false), []⟩, ⟨some 65, .len, [.t 64], some (63, false), []⟩, ⟨some
  66, .mv, [.t 11], some (63, false), []⟩, ⟨some 67, .bin .neq, [.t 65, .t 66], some (63, false), []⟩, ⟨some 68, .pick, [.t 63, .k (.d (.bool true)), .t 67], none, []⟩] [0, 4, 11,
  12, 13, 68]) (.cond (.t 68) (.seq (.region false [⟨some 10, .mv, [.k (.d (.bool false))], none, []⟩] [10]) .ret) .skip)) (.seq (.region false [⟨some 15, .mv, [.k (.nil 2)], none,
  []⟩] [0, 4, 11, 12, 13, 15]) (.seq (.region false [⟨some 16, .alloc [.d (.bool false), .d (.bool false), .d (.bool false), .d (.bool false), .d (.bool false), .d (.bool false),
  .d (.bool false), .d (.bool false), .d (.bool false), .d (.bool false)], [], none, []⟩] [0, 4, 11, 12, 13, 15, 16]) (.seq (.seq (.region false [⟨some 17, .mv, [.k (.d (.int .i64
  0))], none, []⟩] [0, 4, 11, 12, 13, 15, 16, 17]) (.block 0 (.loop [] (.seq (.seq (.region false [⟨some 69, .mv, [.t 17], none, []⟩, ⟨some 70, .mv, [.t 4], none, []⟩, ⟨some 71,
  .len, [.t 70], none, []⟩, ⟨some 72, .bin .lss, [.t 69, .t 71], none, []⟩, ⟨some 73, .mv, [.t 72], none, []⟩, ⟨some 74, .mv, [.t 17], some (73, true), []⟩, ⟨some 75, .bin .lss,
  [.t 74, .k (.d (.int .i64 30))], some (73, true), []⟩, ⟨some 76, .pick, [.t 73, .t 75, .k (.d (.bool false))], none, []⟩] [0, 4, 11, 12, 13, 15, 16, 17, 76]) (.cond (.t 76) .skip
  (.exit 0))) (.seq (.block 1 (.seq (.region false [⟨some 79, .mv, [.t 4], none, []⟩, ⟨some 80, .mv, [.t 17], none, []⟩, ⟨some 81, .ia 1, [.t 79, .t 80], none, []⟩, ⟨some 82, .load
  1 false, [.t 81], none, []⟩, ⟨some 83, .cvt .i64, [.t 82], none, []⟩, ⟨some 84, .mv, [.t 11], none, []⟩, ⟨some 85, .bin .rem, [.t 83, .t 84], none, []⟩, ⟨some 18, .mv, [.t 85],
  none, []⟩] [0, 4, 11, 12, 13, 15, 16, 17, 18]) (.seq (.region false [⟨some 86, .mv, [.t 18], none, []⟩, ⟨some 87, .iarr 10 1, [.t 16, .t 86], none, []⟩, ⟨some 88, .load 1 false,
  [.t 87], none, []⟩, ⟨some 89, .un .not, [.t 88], none, []⟩] [0, 4, 11, 12, 13, 15, 16, 17, 18, 89]) (.cond (.t 89) (.seq (.region false [⟨some 90, .mv, [.t 18], none, []⟩, ⟨some
  91, .iarr 10 1, [.t 16, .t 90], none, []⟩, ⟨none, .store 1, [.t 91, .k (.d (.bool true))], none, []⟩] [0, 4, 11, 12, 13, 15, 16, 17, 18]) (.region false [⟨some 92, .mv, [.t 15],
  none, []⟩, ⟨some 93, .mv, [.t 13], none, []⟩, ⟨some 94, .mv, [.t 18], none, []⟩, ⟨some 95, .ia 2, [.t 93, .t 94], none, []⟩, ⟨some 96, .load 2 true, [.t 95], none, []⟩, ⟨some 97,
  .bslice 2 true 1 [.d (.int .i64 0), .nil 1] [0], [.t 96], none, []⟩, ⟨some 98, .app 2 4398046511104, [.t 92, .t 97], none, []⟩, ⟨some 15, .mv, [.t 98], none, []⟩] [0, 4, 11, 12,
  13, 15, 16, 17])) .skip)))) (.region false [⟨some 77, .mv, [.t 17], none, []⟩, ⟨some 78, .bin .add, [.t 77, .k (.d (.int .i64 1))], none, []⟩, ⟨some 17, .mv, [.t 78], none, []⟩]
  [0, 4, 11, 12, 13, 15, 16, 17])))))) (.seq (.seq (.region false [⟨some 19, .mv, [.k (.d (.int .i64 0))], none, []⟩] [0, 11, 12, 13, 15, 16, 19]) (.block 2 (.loop [] (.seq (.seq
  (.region false [⟨some 99, .mv, [.t 19], none, []⟩, ⟨some 100, .mv, [.t 11], none, []⟩, ⟨some 101, .bin .lss, [.t 99, .t 100], none, []⟩, ⟨some 102, .mv, [.t 101], none, []⟩,
  ⟨some 103, .mv, [.t 15], some (102, true), []⟩, ⟨some 104, .len, [.t 103], some (102, true), []⟩, ⟨some 105, .mv, [.t 12], some (102, true), []⟩, ⟨some 106, .bin .lss, [.t 104,
  .t 105], some (102, true), []⟩, ⟨some 107, .pick, [.t 102, .t 106, .k (.d (.bool false))], none, []⟩] [0, 11, 12, 13, 15, 16, 19, 107]) (.cond (.t 107) .skip (.exit 2))) (.seq
  (.block 3 (.seq (.region false [⟨some 110, .mv, [.t 19], none, []⟩, ⟨some 111, .iarr 10 1, [.t 16, .t 110], none, []⟩, ⟨some 112, .load 1 false, [.t 111], none, []⟩, ⟨some 113,
  .un .not, [.t 112], none, []⟩] [0, 11, 12, 13, 15, 16, 19, 113]) (.cond (.t 113) (.region false [⟨some 114, .mv, [.t 15], none, []⟩, ⟨some 115, .mv, [.t 13], none, []⟩, ⟨some
  116, .mv, [.t 19], none, []⟩, ⟨some 117, .ia 2, [.t 115, .t 116], none, []⟩, ⟨some 118, .load 2 true, [.t 117], none, []⟩, ⟨some 119, .bslice 2 true 1 [.d (.int .i64 0), .nil 1]
  [0], [.t 118], none, []⟩, ⟨some 120, .app 2 4398046511104, [.t 114, .t 119], none, []⟩, ⟨some 15, .mv, [.t 120], none, []⟩] [0, 11, 12, 13, 15, 16, 19]) .skip))) (.region false
  [⟨some 108, .mv, [.t 19], none, []⟩, ⟨some 109, .bin .add, [.t 108, .k (.d (.int .i64 1))], none, []⟩, ⟨some 19, .mv, [.t 109], none, []⟩] [0, 11, 12, 13, 15, 16, 19])))))) (.seq
  (.region false [⟨some 122, .mv, [.t 15], none, []⟩, ⟨some 123, .call 22 true, [.t 122], none, []⟩, ⟨some 121, .mv, [.t 123], none, []⟩, ⟨some 124, .ext 0, [.t 121], none, []⟩,
  ⟨some 125, .ext 1, [.t 121], none, []⟩, ⟨some 20, .mv, [.t 124], none, []⟩, ⟨some 21, .mv, [.t 125], none, []⟩] [0, 11, 13, 15, 20, 21]) (.seq (.seq (.region false [⟨some 22,
  .mv, [.k (.d (.int .i64 0))], none, []⟩] [0, 11, 13, 15, 20, 21, 22]) (.block 4 (.loop [] (.seq (.seq (.region false [⟨some 126, .mv, [.t 22], none, []⟩, ⟨some 127, .mv, [.t 11],
  none, []⟩, ⟨some 128, .bin .lss, [.t 126, .t 127], none, []⟩] [0, 11, 13, 15, 20, 21, 22, 128]) (.cond (.t 128) .skip (.exit 4))) (.seq (.block 5 (.seq (.region false [⟨some 132,
  .mv, [.t 15], none, []⟩, ⟨some 133, .mv, [.t 13], none, []⟩, ⟨some 134, .mv, [.t 22], none, []⟩, ⟨some 135, .ia 2, [.t 133, .t 134], none, []⟩, ⟨some 136, .fa 0, [.t 135], none,
  []⟩, ⟨some 137, .load 1 false, [.t 136], none, []⟩, ⟨some 138, .call 23 true, [.t 132, .t 137], none, []⟩, ⟨some 131, .mv, [.t 138], none, []⟩, ⟨some 139, .ext 0, [.t 131], none,
  []⟩, ⟨some 140, .ext 1, [.t 131], none, []⟩, ⟨some 23, .mv, [.t 139], none, []⟩, ⟨some 24, .mv, [.t 140], none, []⟩] [0, 11, 13, 15, 20, 21, 22, 23, 24]) (.seq (.region true
  [⟨some 141, .mv, [.t 24], none, []⟩, ⟨some 142, .bin .neq, [.t 141, .k (.d (.int .i64 0))], none, [0]⟩, ⟨some 143, .mv, [.t 142], none, [0, 1]⟩, ⟨some 144, .mv, [.t 23], some
  (143, false), [0, 1, 2]⟩, ⟨some 145, .b2s, [.t 144], some (143, false), [0, 1, 2, 3]⟩, ⟨some 146, .mv, [.t 13], some (143, false), [0, 1, 2]⟩, ⟨some 147, .mv, [.t 22], some (143,
  false), [0, 1, 2]⟩, ⟨some 148, .ia 2, [.t 146, .t 147], some (143, false), [0, 1, 2, 5, 6]⟩, ⟨some 149, .fa 1, [.t 148], some (143, false), [0, 1, 2, 5, 6, 7]⟩, ⟨some 150, .load
  1 false, [.t 149], some (143, false), [0, 1, 2, 5, 6, 7, 8]⟩, ⟨some 151, .b2s, [.t 150], some (143, false), [0, 1, 2, 5, 6, 7, 8, 9]⟩, ⟨some 152, .bin .neq, [.t 145, .t 151],
  some (143, false), [0, 1, 2, 3, 4, 5, 6, 7, 8, 9, 10]⟩, ⟨some 153, .pick, [.t 143, .k (.d (.bool true)), .t 152], none, [0, 1, 2, 3, 4, 5, 6, 7, 8, 9, 10, 11]⟩] [0, 11, 13, 15,
  20, 21, 22, 153]) (.cond (.t 153) (.seq (.region false [⟨some 10, .mv, [.k (.d (.bool false))], none, []⟩] [10]) .ret) .skip)))) (.region false [⟨some 129, .mv, [.t 22], none,
  []⟩, ⟨some 130, .bin .add, [.t 129, .k (.d (.int .i64 1))], none, []⟩, ⟨some 22, .mv, [.t 130], none, []⟩] [0, 11, 13, 15, 20, 21, 22])))))) (.seq (.region false [⟨some 154, .mv,
  [.t 21], none, []⟩, ⟨some 155, .bin .eql, [.t 154, .k (.d (.int .i64 0))], none, []⟩, ⟨some 156, .mv, [.t 155], none, []⟩, ⟨some 157, .mv, [.t 20], some (156, true), []⟩, ⟨some
  158, .b2s, [.t 157], some (156, true), []⟩, ⟨some 159, .mv, [.t 0], some (156, true), []⟩, ⟨some 160, .b2s, [.t 159], some (156, true), []⟩, ⟨some 161, .bin .eql, [.t 158, .t
  160], some (156, true), []⟩, ⟨some 162, .pick, [.t 156, .t 161, .k (.d (.bool false))], none, []⟩, ⟨some 163, .mv, [.t 162], none, []⟩, ⟨some 164, .call 13 false, [], some (163,
  true), []⟩, ⟨some 165, .pick, [.t 163, .t 164, .k (.d (.bool false))], none, []⟩, ⟨some 10, .mv, [.t 165], none, []⟩] [10]) .ret))))))))))))
def passkeylaw37SharingRestoresRr : List RR := [.t 10]
theorem passkeylaw37SharingRestoresC : compFn Try.prog 6 passkeylaw37SharingRestoresH = some (passkeylaw37SharingRestoresRc, passkeylaw37SharingRestoresRr, 166) := by kernel_rfl
theorem passkeylaw37SharingRestoresOK (a0 : List (BitVec 8)) (a1 : List (BitVec 8)) (a2 : BitVec 8) (a3 : BitVec 8) (a4 : List (BitVec 8)) (res : Bool) (h : passkeylaw37SharingRestores a0 a1 a2 a3 a4 = some res) : CallOK Try.prog 6 [.d ((eL 1 eU8) a0), .d ((eL 1 eU8) a1), .d (eU8 a2), .d (eU8 a3), .d ((eL 1 eU8) a4)] [] (.d (eB res)) [] := by
  unfold passkeylaw37SharingRestores at h
  refine callOK passkeylaw37SharingRestoresC fm rfl ?_
  simp only [initE, initM, nbor, List.map_cons, List.map_nil, Nat.reduceAdd]
  unfold passkeylaw37SharingRestoresRc
  refine rwp_seq fun K1 hK1 => ?_
  refine rwp_region fun K2 hK2 => ?_
  refine st0 128 rfl (ok (mv (.d (eB false)))) ?_
  refine hK2 _ _ ?_
  simp only [thenK, blockK, keepE, updM, List.filter_cons, List.filter_nil, List.nil_append, List.cons_append, List.map_cons, List.map_nil, envE, Mem.get, Nat.reduceEqDiff, reduceIte, Option.isNone_none, Option.isNone_some, Bool.false_eq_true, List.length_cons, List.length_nil, Nat.reduceAdd, Nat.reduceMul]
  refine hK1 _ _ _ ?_
  refine rwp_seq fun K3 hK3 => ?_
  refine rwp_region fun K4 hK4 => ?_
  refine st0 192 rfl (ok (mv (.d (eU8 a3)))) ?_
  refine st0 256 rfl (ok (rem8 _ (10#8) (by decide))) ?_
  refine st0 320 rfl (ok (toI8 _)) ?_
  refine st0 384 rfl (ok (addI (1 : Int) _)) ?_
  refine st0 448 rfl (ok (mv (.d (eI (w64 ((1 : Int) + ((a3 % (10#8)).toNat : Int))))))) ?_
  refine hK4 _ _ ?_
  simp only [thenK, blockK, keepE, updM, List.filter_cons, List.filter_nil, List.nil_append, List.cons_append, List.map_cons, List.map_nil, envE, Mem.get, Nat.reduceEqDiff, reduceIte, Option.isNone_none, Option.isNone_some, Bool.false_eq_true, List.length_cons, List.length_nil, Nat.reduceAdd, Nat.reduceMul]
  refine hK3 _ _ _ ?_
  refine rwp_seq fun K5 hK5 => ?_
  refine rwp_region fun K6 hK6 => ?_
  refine st0 512 rfl (ok (mv (.d (eU8 a2)))) ?_
  refine st0 576 rfl (ok (toI8 _)) ?_
  refine st0 640 rfl (ok (mv (.d (eI (w64 ((1 : Int) + ((a3 % (10#8)).toNat : Int))))))) ?_
  obtain ⟨h7, h⟩ := asq_inv h
  obtain ⟨v8, h9, h⟩ := lett_inv h
  refine st0e 704 rfl (ok (remI _ _ h7)) (congrArg (fun z => PV.d (eI z)) h9) ?_
  refine st0 768 rfl (ok (addI (1 : Int) _)) ?_
  refine st0 832 rfl (ok (mv (.d (eI (w64 ((1 : Int) + v8)))))) ?_
  refine hK6 _ _ ?_
  simp only [thenK, blockK, keepE, updM, List.filter_cons, List.filter_nil, List.nil_append, List.cons_append, List.map_cons, List.map_nil, envE, Mem.get, Nat.reduceEqDiff, reduceIte, Option.isNone_none, Option.isNone_some, Bool.false_eq_true, List.length_cons, List.length_nil, Nat.reduceAdd, Nat.reduceMul]
  refine hK5 _ _ _ ?_
  refine rwp_seq fun K10 hK10 => ?_
  refine rwp_join ([], []) 2048 (fun env mem => ∃ (v11 : Bool), passkeylaw37SharingRestoresJ1 a0 a1 a3 a4 v8 v11 = some res ∧ env = [(0, .d ((eL 1 eU8) a0)), (1, .d ((eL 1 eU8) a1)), (4, .d ((eL 1 eU8) a4)), (11, .d (eI (w64 ((1 : Int) + ((a3 % (10#8)).toNat : Int))))), (12, .d (eI (w64 ((1 : Int) + v8)))), (51, .d (eB v11))] ∧ mem = []) (fun _ _ hI => ?_) (fun K12 hK12 => ?_)
  · obtain ⟨v11, h, rfl, rfl⟩ := hI
    unfold passkeylaw37SharingRestoresJ1 at h
    rcases Bool.eq_false_or_eq_true (v11) with h13 | h13
    · replace h := ite_t h h13
      refine rwp_t (isT h13) ?_
      refine rwp_seq fun K14 hK14 => ?_
      refine rwp_region fun K15 hK15 => ?_
      obtain ⟨y16, h17, h⟩ := bind_inv h
      refine st0 2112 rfl (call_ok (v := .d (eB y16)) (u := []) ar_nil rfl (passkeylaw37awakeOK  y16 h17) rfl) ?_
      refine st0 2176 rfl (ok (mv (.d (eB y16)))) ?_
      refine hK15 _ _ ?_
      simp only [thenK, blockK, keepE, updM, List.filter_cons, List.filter_nil, List.nil_append, List.cons_append, List.map_cons, List.map_nil, envE, Mem.get, Nat.reduceEqDiff, reduceIte, Option.isNone_none, Option.isNone_some, Bool.false_eq_true, List.length_cons, List.length_nil, Nat.reduceAdd, Nat.reduceMul]
      refine hK14 _ _ _ ?_
      refine rwp_ret ?_
      obtain rfl := Option.some.inj h
      try simp only [thenK, blockK, reduceIte]
      exact end_ok trivial (rs_t (v := .d (eB y16)) rfl rs_nil) (en_d (to_d _) en_nil) ou_nil (by first | exact eok rfl rfl rfl rfl trivial | (refine eok ?_ ?_ ?_ ?_ ?_ <;> first | rfl | exact trivial | simp [retM, Mem.get, PV.renL, PV.ren, Blk.ren, comps, rhoR, rhoM, appN, PV.refsL, PV.refs, keys, nodupB, Blk.refs, allIn, Blk.bor]))
    · replace h := ite_f h h13
      refine rwp_f (isF h13) ?_
      refine rwp_skip ?_
      refine hK10 _ _ _ ?_
      refine rwp_seq fun K18 hK18 => ?_
      refine rwp_region fun K19 hK19 => ?_
      refine st0 2112 rfl (ok (mv (.d ((eL 1 eU8) a0)))) ?_
      refine st0 2176 rfl (ok (mv (.d ((eL 1 eU8) a1)))) ?_
      refine st0 2240 rfl (ok (mv (.d (eI (w64 ((1 : Int) + v8)))))) ?_
      refine st0 2304 rfl (ok (mv (.d (eI (w64 ((1 : Int) + ((a3 % (10#8)).toNat : Int))))))) ?_
      obtain ⟨y20, h21, h⟩ := bind_inv h
      refine st1 2368 rfl (mem' := [(2304, .row true 2 (y20.1.map eTApiShare))]) (call_ok (v := .tup [.ref 2304 y20.1.length 0 y20.1.length, .d (eI y20.2)]) (u := [(2304, .row true 2 (y20.1.map eTApiShare))]) (ar_d ((eL 1 eU8) a0) (ar_d ((eL 1 eU8) a1) (ar_d (eI (w64 ((1 : Int) + v8))) (ar_d (eI (w64 ((1 : Int) + ((a3 % (10#8)).toNat : Int)))) ar_nil)))) rfl (sharingSplitOK a0 a1 (w64 ((1 : Int) + v8)) (w64 ((1 : Int) + ((a3 % (10#8)).toNat : Int))) y20 h21) rfl) rfl ?_
      refine st0 2432 rfl (ok (mv (.tup [.ref 2304 y20.1.length 0 y20.1.length, .d (eI y20.2)]))) ?_
      refine st0 2496 rfl (ok (extr (v := .ref 2304 y20.1.length 0 y20.1.length) rfl rfl)) ?_
      refine st0 2560 rfl (ok (extr (v := .d (eI y20.2)) rfl rfl)) ?_
      refine st0 2624 rfl (ok (mv (.ref 2304 y20.1.length 0 y20.1.length))) ?_
      refine st0 2688 rfl (ok (mv (.d (eI y20.2)))) ?_
      refine hK19 _ _ ?_
      simp only [thenK, blockK, keepE, updM, List.filter_cons, List.filter_nil, List.nil_append, List.cons_append, List.map_cons, List.map_nil, envE, Mem.get, Nat.reduceEqDiff, reduceIte, Option.isNone_none, Option.isNone_some, Bool.false_eq_true, List.length_cons, List.length_nil, Nat.reduceAdd, Nat.reduceMul]
      refine hK18 _ _ _ ?_
      refine rwp_seq fun K22 hK22 => ?_
      refine rwp_join ([], []) 3264 (fun env mem => ∃ (v23 : Bool), passkeylaw37SharingRestoresJ2 a0 a3 a4 v8 y20 v23 = some res ∧ env = [(0, .d ((eL 1 eU8) a0)), (4, .d ((eL 1 eU8) a4)), (11, .d (eI (w64 ((1 : Int) + ((a3 % (10#8)).toNat : Int))))), (12, .d (eI (w64 ((1 : Int) + v8)))), (13, .ref 2304 y20.1.length 0 y20.1.length), (68, .d (eB v23))] ∧ mem = [(2304, .row true 2 (y20.1.map eTApiShare))]) (fun _ _ hI => ?_) (fun K24 hK24 => ?_)
      · obtain ⟨v23, h, rfl, rfl⟩ := hI
        unfold passkeylaw37SharingRestoresJ2 at h
        rcases Bool.eq_false_or_eq_true (v23) with h25 | h25
        · replace h := ite_t h h25
          refine rwp_t (isT h25) ?_
          refine rwp_seq fun K26 hK26 => ?_
          refine rwp_region fun K27 hK27 => ?_
          refine st0 3328 rfl (ok (mv (.d (eB false)))) ?_
          refine hK27 _ _ ?_
          simp only [thenK, blockK, keepE, updM, List.filter_cons, List.filter_nil, List.nil_append, List.cons_append, List.map_cons, List.map_nil, envE, Mem.get, Nat.reduceEqDiff, reduceIte, Option.isNone_none, Option.isNone_some, Bool.false_eq_true, List.length_cons, List.length_nil, Nat.reduceAdd, Nat.reduceMul]
          refine hK26 _ _ _ ?_
          refine rwp_ret ?_
          obtain rfl := Option.some.inj h
          try simp only [thenK, blockK, reduceIte]
          exact end_ok trivial (rs_t (v := .d (eB false)) rfl rs_nil) (en_d (to_d _) en_nil) ou_nil (by first | exact eok rfl rfl rfl rfl trivial | (refine eok ?_ ?_ ?_ ?_ ?_ <;> first | rfl | exact trivial | simp [retM, Mem.get, PV.renL, PV.ren, Blk.ren, comps, rhoR, rhoM, appN, PV.refsL, PV.refs, keys, nodupB, Blk.refs, allIn, Blk.bor]))
        · replace h := ite_f h h25
          refine rwp_f (isF h25) ?_
          refine rwp_skip ?_
          refine hK22 _ _ _ ?_
          refine rwp_seq fun K28 hK28 => ?_
          refine rwp_region fun K29 hK29 => ?_
          refine st0 3328 rfl (ok (mv (.nil 2))) ?_
          refine hK29 _ _ ?_
          simp only [thenK, blockK, keepE, updM, List.filter_cons, List.filter_nil, List.nil_append, List.cons_append, List.map_cons, List.map_nil, envE, Mem.get, Nat.reduceEqDiff, reduceIte, Option.isNone_none, Option.isNone_some, Bool.false_eq_true, List.length_cons, List.length_nil, Nat.reduceAdd, Nat.reduceMul]
          refine hK28 _ _ _ ?_
          refine rwp_seq fun K30 hK30 => ?_
          refine rwp_region fun K31 hK31 => ?_
          refine st1 3392 rfl (mem' := [(3328, .var .mine [.d (eB false), .d (eB false), .d (eB false), .d (eB false), .d (eB false), .d (eB false), .d (eB false), .d (eB false), .d (eB false), .d (eB false)]), (2304, .row true 2 (y20.1.map eTApiShare))]) (ok (alc (zs := [.d (eB false), .d (eB false), .d (eB false), .d (eB false), .d (eB false), .d (eB false), .d (eB false), .d (eB false), .d (eB false), .d (eB false)]))) rfl ?_
          refine hK31 _ _ ?_
          simp only [thenK, blockK, keepE, updM, List.filter_cons, List.filter_nil, List.nil_append, List.cons_append, List.map_cons, List.map_nil, envE, Mem.get, Nat.reduceEqDiff, reduceIte, Option.isNone_none, Option.isNone_some, Bool.false_eq_true, List.length_cons, List.length_nil, Nat.reduceAdd, Nat.reduceMul]
          refine hK30 _ _ _ ?_
          refine rwp_join ([], []) 6592 (fun env mem => ∃ (v32 : List (TApiShare)) (v33 : List (Bool)), passkeylaw37SharingRestoresJ3 a0 a3 v8 y20 v32 v33 = some res ∧ env = [(0, .d ((eL 1 eU8) a0)), (11, .d (eI (w64 ((1 : Int) + ((a3 % (10#8)).toNat : Int))))), (12, .d (eI (w64 ((1 : Int) + v8)))), (13, .ref 2304 y20.1.length 0 y20.1.length), (15, .ref 5889 v32.length 0 v32.length), (16, .ptr 3328 0)] ∧ mem = [(2304, .row true 2 (y20.1.map eTApiShare)), (5889, .row true 2 (v32.map eTApiShare)), (3328, .var .mine (v33.map fun x => .d (eB x)))]) (fun _ _ hI => ?_) (fun K34 hK34 => ?_)
          · obtain ⟨v32, v33, h, rfl, rfl⟩ := hI
            unfold passkeylaw37SharingRestoresJ3 at h
            refine rwp_join ([], []) 9152 (fun env mem => ∃ (v35 : List (TApiShare)), passkeylaw37SharingRestoresJ4 a0 a3 y20 v35 = some res ∧ env = [(0, .d ((eL 1 eU8) a0)), (11, .d (eI (w64 ((1 : Int) + ((a3 % (10#8)).toNat : Int))))), (13, .ref 2304 y20.1.length 0 y20.1.length), (15, .ref 5889 v35.length 0 v35.length)] ∧ mem = [(2304, .row true 2 (y20.1.map eTApiShare)), (5889, .row true 2 (v35.map eTApiShare))]) (fun _ _ hI => ?_) (fun K36 hK36 => ?_)
            · obtain ⟨v35, h, rfl, rfl⟩ := hI
              unfold passkeylaw37SharingRestoresJ4 at h
              refine rwp_seq fun K37 hK37 => ?_
              refine rwp_region fun K38 hK38 => ?_
              refine st0 9216 rfl (ok (mv (.ref 5889 v35.length 0 v35.length))) ?_
              obtain ⟨y39, h40, h⟩ := bind_inv h
              refine st1 9280 rfl (mem' := [(9216, .row true 1 (y39.1.map eU8)), (5889, .row false 2 (v35.map eTApiShare)), (2304, .row true 2 (y20.1.map eTApiShare))]) (call_ok (v := .tup [.ref 9216 y39.1.length 0 y39.1.length, .d (eI y39.2)]) (u := [(9216, .row true 1 (y39.1.map eU8)), (5889, .row false 2 (v35.map eTApiShare))]) (ar_to rfl (to_1 rfl (ds_r (ys := v35) rfl rfl rfl ds_nil)) ar_nil) rfl (sharingJoinOK v35 y39 h40) rfl) rfl ?_
              refine st0 9344 rfl (ok (mv (.tup [.ref 9216 y39.1.length 0 y39.1.length, .d (eI y39.2)]))) ?_
              refine st0 9408 rfl (ok (extr (v := .ref 9216 y39.1.length 0 y39.1.length) rfl rfl)) ?_
              refine st0 9472 rfl (ok (extr (v := .d (eI y39.2)) rfl rfl)) ?_
              refine st0 9536 rfl (ok (mv (.ref 9216 y39.1.length 0 y39.1.length))) ?_
              refine st0 9600 rfl (ok (mv (.d (eI y39.2)))) ?_
              refine hK38 _ _ ?_
              simp only [thenK, blockK, keepE, updM, List.filter_cons, List.filter_nil, List.nil_append, List.cons_append, List.map_cons, List.map_nil, envE, Mem.get, Nat.reduceEqDiff, reduceIte, Option.isNone_none, Option.isNone_some, Bool.false_eq_true, List.length_cons, List.length_nil, Nat.reduceAdd, Nat.reduceMul]
              refine hK37 _ _ _ ?_
              refine rwp_join ([], []) 12096 (fun env mem => passkeylaw37SharingRestoresJ5 a0 y39 = some res ∧ env = [(0, .d ((eL 1 eU8) a0)), (20, .ref 9216 y39.1.length 0 y39.1.length), (21, .d (eI y39.2))] ∧ mem = [(9216, .row true 1 (y39.1.map eU8))]) (fun _ _ hI => ?_) (fun K41 hK41 => ?_)
              · obtain ⟨h, rfl, rfl⟩ := hI
                unfold passkeylaw37SharingRestoresJ5 at h
                refine rwp_seq fun K42 hK42 => ?_
                refine rwp_region fun K43 hK43 => ?_
                refine st0 12160 rfl (ok (mv (.d (eI y39.2)))) ?_
                refine st0 12224 rfl (ok (eqlI _ (0 : Int))) ?_
                refine st0 12288 rfl (ok (mv (.d (eB (y39.2 == (0 : Int)))))) ?_
                rcases Bool.eq_false_or_eq_true ((y39.2 == (0 : Int))) with h44 | h44
                · replace h := ite_t h h44
                  refine stG (isT h44) ?_
                  refine st0 12352 rfl (ok (mv (.ref 9216 y39.1.length 0 y39.1.length))) ?_
                  refine stG (isT h44) ?_
                  refine st0 12416 rfl (ok (b2s (contR (xs := y39.1) rfl rfl rfl))) ?_
                  refine stG (isT h44) ?_
                  refine st0 12480 rfl (ok (mv (.d ((eL 1 eU8) a0)))) ?_
                  refine stG (isT h44) ?_
                  refine st0 12544 rfl (ok (b2s contL)) ?_
                  refine stG (isT h44) ?_
                  refine st0 12608 rfl (ok (eqlS y39.1 a0)) ?_
                  refine st0 12672 rfl (ok (pick_t h44 (.d (eB (y39.1 == a0))) _)) ?_
                  refine st0 12736 rfl (ok (mv (.d (eB (y39.1 == a0))))) ?_
                  rcases Bool.eq_false_or_eq_true ((y39.1 == a0)) with h45 | h45
                  · replace h := ite_t h h45
                    refine stG (isT h45) ?_
                    obtain ⟨y46, h47, h⟩ := bind_inv h
                    refine st0 12800 rfl (call_ok (v := .d (eB y46)) (u := []) ar_nil rfl (passkeylaw37awakeOK  y46 h47) rfl) ?_
                    refine st0 12864 rfl (ok (pick_t h45 (.d (eB y46)) _)) ?_
                    refine st0 12928 rfl (ok (mv (.d (eB y46)))) ?_
                    refine hK43 _ _ ?_
                    simp only [thenK, blockK, keepE, updM, List.filter_cons, List.filter_nil, List.nil_append, List.cons_append, List.map_cons, List.map_nil, envE, Mem.get, Nat.reduceEqDiff, reduceIte, Option.isNone_none, Option.isNone_some, Bool.false_eq_true, List.length_cons, List.length_nil, Nat.reduceAdd, Nat.reduceMul]
                    refine hK42 _ _ _ ?_
                    refine rwp_ret ?_
                    obtain rfl := Option.some.inj h
                    try simp only [thenK, blockK, reduceIte]
                    exact end_ok trivial (rs_t (v := .d (eB y46)) rfl rs_nil) (en_d (to_d _) en_nil) ou_nil (by first | exact eok rfl rfl rfl rfl trivial | (refine eok ?_ ?_ ?_ ?_ ?_ <;> first | rfl | exact trivial | simp [retM, Mem.get, PV.renL, PV.ren, Blk.ren, comps, rhoR, rhoM, appN, PV.refsL, PV.refs, keys, nodupB, Blk.refs, allIn, Blk.bor]))
                  · replace h := ite_f h h45
                    refine stGN 12800 rfl rfl h45 ?_
                    refine st0 12864 rfl (ok (pick_f h45 _ (.d (eB false)))) ?_
                    refine st0 12928 rfl (ok (mv (.d (eB false)))) ?_
                    refine hK43 _ _ ?_
                    simp only [thenK, blockK, keepE, updM, List.filter_cons, List.filter_nil, List.nil_append, List.cons_append, List.map_cons, List.map_nil, envE, Mem.get, Nat.reduceEqDiff, reduceIte, Option.isNone_none, Option.isNone_some, Bool.false_eq_true, List.length_cons, List.length_nil, Nat.reduceAdd, Nat.reduceMul]
                    refine hK42 _ _ _ ?_
                    refine rwp_ret ?_
                    obtain rfl := Option.some.inj h
                    try simp only [thenK, blockK, reduceIte]
                    exact end_ok trivial (rs_t (v := .d (eB false)) rfl rs_nil) (en_d (to_d _) en_nil) ou_nil (by first | exact eok rfl rfl rfl rfl trivial | (refine eok ?_ ?_ ?_ ?_ ?_ <;> first | rfl | exact trivial | simp [retM, Mem.get, PV.renL, PV.ren, Blk.ren, comps, rhoR, rhoM, appN, PV.refsL, PV.refs, keys, nodupB, Blk.refs, allIn, Blk.bor]))
                · replace h := ite_f h h44
                  refine stGN 12352 rfl rfl h44 ?_
                  refine stGN 12416 rfl rfl h44 ?_
                  refine stGN 12480 rfl rfl h44 ?_
                  refine stGN 12544 rfl rfl h44 ?_
                  refine stGN 12608 rfl rfl h44 ?_
                  refine st0 12672 rfl (ok (pick_f h44 _ (.d (eB false)))) ?_
                  refine st0 12736 rfl (ok (mv (.d (eB false)))) ?_
                  refine stGN 12800 rfl rfl rfl ?_
                  refine st0 12864 rfl (ok (pick_f rfl _ (.d (eB false)))) ?_
                  refine st0 12928 rfl (ok (mv (.d (eB false)))) ?_
                  refine hK43 _ _ ?_
                  simp only [thenK, blockK, keepE, updM, List.filter_cons, List.filter_nil, List.nil_append, List.cons_append, List.map_cons, List.map_nil, envE, Mem.get, Nat.reduceEqDiff, reduceIte, Option.isNone_none, Option.isNone_some, Bool.false_eq_true, List.length_cons, List.length_nil, Nat.reduceAdd, Nat.reduceMul]
                  refine hK42 _ _ _ ?_
                  refine rwp_ret ?_
                  obtain rfl := Option.some.inj h
                  try simp only [thenK, blockK, reduceIte]
                  exact end_ok trivial (rs_t (v := .d (eB false)) rfl rs_nil) (en_d (to_d _) en_nil) ou_nil (by first | exact eok rfl rfl rfl rfl trivial | (refine eok ?_ ?_ ?_ ?_ ?_ <;> first | rfl | exact trivial | simp [retM, Mem.get, PV.renL, PV.ren, Blk.ren, comps, rhoR, rhoM, appN, PV.refsL, PV.refs, keys, nodupB, Blk.refs, allIn, Blk.bor]))
              · refine rwp_seq fun K48 hK48 => ?_
                refine rwp_region fun K49 hK49 => ?_
                refine st0 9664 rfl (ok (mv (.d (eI (0 : Int))))) ?_
                refine hK49 _ _ ?_
                simp only [thenK, blockK, keepE, updM, List.filter_cons, List.filter_nil, List.nil_append, List.cons_append, List.map_cons, List.map_nil, envE, Mem.get, Nat.reduceEqDiff, reduceIte, Option.isNone_none, Option.isNone_some, Bool.false_eq_true, List.length_cons, List.length_nil, Nat.reduceAdd, Nat.reduceMul]
                refine hK48 _ _ _ ?_
                refine rwp_block fun K50 hK50 => ?_
                refine rwp_loop ([], []) 11840 (fun k env mem => ∃ (v51 : Int), passkeylaw37SharingRestoresL6 a0 a3 y20 v35 y39 k v51 = some res ∧ env = [(0, .d ((eL 1 eU8) a0)), (11, .d (eI (w64 ((1 : Int) + ((a3 % (10#8)).toNat : Int))))), (13, .ref 2304 y20.1.length 0 y20.1.length), (15, .ref 5889 v35.length 0 v35.length), (20, .ref 9216 y39.1.length 0 y39.1.length), (21, .d (eI y39.2)), (22, .d (eI v51))] ∧ mem = [(2304, .row true 2 (y20.1.map eTApiShare)), (5889, .row false 2 (v35.map eTApiShare)), (9216, .row true 1 (y39.1.map eU8))]) FUEL ⟨_, _, Settled.refl, _, _, ⟨_, h, rfl, rfl⟩, ⟨rfl, ⟨⟨rfl, rfl⟩, ⟨⟨rfl, rfl⟩, ⟨⟨rfl, rfl⟩, ⟨⟨rfl, rfl⟩, ⟨⟨rfl, rfl⟩, ⟨⟨rfl, rfl⟩, ⟨⟨rfl, rfl⟩, trivial⟩⟩⟩⟩⟩⟩⟩, ⟨⟨rfl, rfl⟩, ⟨⟨rfl, rfl⟩, ⟨⟨rfl, rfl⟩, trivial⟩⟩⟩⟩, rfl⟩ (fun k6 env1 mem1 hI K52 hK52 => ?_)
                obtain ⟨v51, h, rfl, rfl⟩ := hI
                cases k6 with
                | zero => simp [passkeylaw37SharingRestoresL6] at h
                | succ k6 =>
                  rw [passkeylaw37SharingRestoresL6] at h
                  refine rwp_seq fun K53 hK53 => ?_
                  refine rwp_seq fun K54 hK54 => ?_
                  refine rwp_region fun K55 hK55 => ?_
                  refine st0 11904 rfl (ok (mv (.d (eI v51)))) ?_
                  refine st0 11968 rfl (ok (mv (.d (eI (w64 ((1 : Int) + ((a3 % (10#8)).toNat : Int))))))) ?_
                  refine st0 12032 rfl (ok (lssI _ _)) ?_
                  refine hK55 _ _ ?_
                  simp only [thenK, blockK, keepE, updM, List.filter_cons, List.filter_nil, List.nil_append, List.cons_append, List.map_cons, List.map_nil, envE, Mem.get, Nat.reduceEqDiff, reduceIte, Option.isNone_none, Option.isNone_some, Bool.false_eq_true, List.length_cons, List.length_nil, Nat.reduceAdd, Nat.reduceMul]
                  refine hK54 _ _ _ ?_
                  rcases Bool.eq_false_or_eq_true ((decide (v51 < (w64 ((1 : Int) + ((a3 % (10#8)).toNat : Int)))))) with h56 | h56
                  · replace h := ite_t h h56
                    refine rwp_t (isT h56) ?_
                    refine rwp_skip ?_
                    refine hK53 _ _ _ ?_
                    refine rwp_seq fun K57 hK57 => ?_
                    refine rwp_block fun K58 hK58 => ?_
                    refine rwp_seq fun K59 hK59 => ?_
                    refine rwp_region fun K60 hK60 => ?_
                    refine st0 12096 rfl (ok (mv (.ref 5889 v35.length 0 v35.length))) ?_
                    refine st0 12160 rfl (ok (mv (.ref 2304 y20.1.length 0 y20.1.length))) ?_
                    refine st0 12224 rfl (ok (mv (.d (eI v51)))) ?_
                    obtain ⟨h61, h⟩ := asq_inv h
                    refine st0 12288 rfl (ok (iaR (xs := y20.1) (e := eTApiShare) rfl rfl h61)) ?_
                    refine st0 12352 rfl (ok (fa_rk 0 rfl)) ?_
                    refine st0 12416 rfl (ok (ld_rp (e := eTApiShare) (xs := y20.1) (v := eI ((y20.1.getD (0 + v51.toNat) (TApiShare.mk (0 : Int) ([] : List (BitVec 8)))).X)) (TApiShare.mk (0 : Int) ([] : List (BitVec 8))) rfl rfl (by have := h61; simp at this ⊢; omega) rfl rfl rfl rfl)) ?_
                    obtain ⟨y62, h63, h⟩ := bind_inv h
                    refine st1 12480 rfl (mem' := [(12416, .row true 1 (y62.1.map eU8)), (5889, .row false 2 (v35.map eTApiShare)), (2304, .row true 2 (y20.1.map eTApiShare)), (9216, .row true 1 (y39.1.map eU8))]) (call_ok (v := .tup [.ref 12416 y62.1.length 0 y62.1.length, .d (eI y62.2)]) (u := [(12416, .row true 1 (y62.1.map eU8)), (5889, .row false 2 (v35.map eTApiShare))]) (ar_to rfl (to_1 rfl (ds_r (ys := v35) rfl rfl rfl ds_nil)) (ar_d (eI ((y20.1.getD (0 + v51.toNat) (TApiShare.mk (0 : Int) ([] : List (BitVec 8)))).X)) ar_nil)) rfl (sharingAtOK v35 ((y20.1.getD (0 + v51.toNat) (TApiShare.mk (0 : Int) ([] : List (BitVec 8)))).X) y62 h63) rfl) rfl ?_
                    refine st0 12544 rfl (ok (mv (.tup [.ref 12416 y62.1.length 0 y62.1.length, .d (eI y62.2)]))) ?_
                    refine st0 12608 rfl (ok (extr (v := .ref 12416 y62.1.length 0 y62.1.length) rfl rfl)) ?_
                    refine st0 12672 rfl (ok (extr (v := .d (eI y62.2)) rfl rfl)) ?_
                    refine st0 12736 rfl (ok (mv (.ref 12416 y62.1.length 0 y62.1.length))) ?_
                    refine st0 12800 rfl (ok (mv (.d (eI y62.2)))) ?_
                    refine hK60 _ _ ?_
                    simp only [thenK, blockK, keepE, updM, List.filter_cons, List.filter_nil, List.nil_append, List.cons_append, List.map_cons, List.map_nil, envE, Mem.get, Nat.reduceEqDiff, reduceIte, Option.isNone_none, Option.isNone_some, Bool.false_eq_true, List.length_cons, List.length_nil, Nat.reduceAdd, Nat.reduceMul]
                    refine hK59 _ _ _ ?_
                    refine rwp_join ([], []) 13696 (fun env mem => ∃ (v64 : Bool), passkeylaw37SharingRestoresJ7 (passkeylaw37SharingRestoresL6 a0 a3 y20 v35 y39 k6) v51 v64 = some res ∧ env = [(0, .d ((eL 1 eU8) a0)), (11, .d (eI (w64 ((1 : Int) + ((a3 % (10#8)).toNat : Int))))), (13, .ref 2304 y20.1.length 0 y20.1.length), (15, .ref 5889 v35.length 0 v35.length), (20, .ref 9216 y39.1.length 0 y39.1.length), (21, .d (eI y39.2)), (22, .d (eI v51)), (153, .d (eB v64))] ∧ mem = [(2304, .row true 2 (y20.1.map eTApiShare)), (5889, .row false 2 (v35.map eTApiShare)), (9216, .row true 1 (y39.1.map eU8))]) (fun _ _ hI => ?_) (fun K65 hK65 => ?_)
                    · obtain ⟨v64, h, rfl, rfl⟩ := hI
                      unfold passkeylaw37SharingRestoresJ7 at h
                      rcases Bool.eq_false_or_eq_true (v64) with h66 | h66
                      · replace h := ite_t h h66
                        refine rwp_t (isT h66) ?_
                        refine rwp_seq fun K67 hK67 => ?_
                        refine rwp_region fun K68 hK68 => ?_
                        refine st0 13760 rfl (ok (mv (.d (eB false)))) ?_
                        refine hK68 _ _ ?_
                        simp only [thenK, blockK, keepE, updM, List.filter_cons, List.filter_nil, List.nil_append, List.cons_append, List.map_cons, List.map_nil, envE, Mem.get, Nat.reduceEqDiff, reduceIte, Option.isNone_none, Option.isNone_some, Bool.false_eq_true, List.length_cons, List.length_nil, Nat.reduceAdd, Nat.reduceMul]
                        refine hK67 _ _ _ ?_
                        refine rwp_ret ?_
                        obtain rfl := Option.some.inj h
                        try simp only [thenK, blockK, reduceIte]
                        exact end_ok trivial (rs_t (v := .d (eB false)) rfl rs_nil) (en_d (to_d _) en_nil) ou_nil (by first | exact eok rfl rfl rfl rfl trivial | (refine eok ?_ ?_ ?_ ?_ ?_ <;> first | rfl | exact trivial | simp [retM, Mem.get, PV.renL, PV.ren, Blk.ren, comps, rhoR, rhoM, appN, PV.refsL, PV.refs, keys, nodupB, Blk.refs, allIn, Blk.bor]))
                      · replace h := ite_f h h66
                        refine rwp_f (isF h66) ?_
                        refine rwp_skip ?_
                        refine hK58 _ _ _ ?_
                        refine hK57 _ _ _ ?_
                        refine rwp_region fun K69 hK69 => ?_
                        refine st0 13760 rfl (ok (mv (.d (eI v51)))) ?_
                        refine st0 13824 rfl (ok (addI _ (1 : Int))) ?_
                        refine st0 13888 rfl (ok (mv (.d (eI (w64 (v51 + (1 : Int))))))) ?_
                        refine hK69 _ _ ?_
                        simp only [thenK, blockK, keepE, updM, List.filter_cons, List.filter_nil, List.nil_append, List.cons_append, List.map_cons, List.map_nil, envE, Mem.get, Nat.reduceEqDiff, reduceIte, Option.isNone_none, Option.isNone_some, Bool.false_eq_true, List.length_cons, List.length_nil, Nat.reduceAdd, Nat.reduceMul]
                        exact hK52.out _ _ _ k6 (Nat.lt_succ_self k6) ⟨_, _, Settled.refl, _, _, ⟨_, h, rfl, rfl⟩, ⟨rfl, ⟨⟨rfl, rfl⟩, ⟨⟨rfl, rfl⟩, ⟨⟨rfl, rfl⟩, ⟨⟨rfl, rfl⟩, ⟨⟨rfl, rfl⟩, ⟨⟨rfl, rfl⟩, ⟨⟨rfl, rfl⟩, trivial⟩⟩⟩⟩⟩⟩⟩, ⟨⟨rfl, rfl⟩, ⟨⟨rfl, rfl⟩, ⟨⟨rfl, rfl⟩, trivial⟩⟩⟩⟩, rfl⟩
                    · refine rwp_draw fun K70 hK70 => ?_
                      refine dr0 12864 rfl (ok (mv (.d (eI y62.2)))) (by kernel_rfl) ?_
                      refine dr0 12928 rfl (ok (neqI _ (0 : Int))) (by kernel_rfl) ?_
                      refine dr0 12992 rfl (ok (mv (.d (eB (y62.2 != (0 : Int)))))) (by kernel_rfl) ?_
                      rcases Bool.eq_false_or_eq_true ((y62.2 != (0 : Int))) with h71 | h71
                      · replace h := ite_t h h71
                        refine drGN 13056 rfl rfl h71 ?_
                        refine drGN 13120 rfl rfl h71 ?_
                        refine drGN 13184 rfl rfl h71 ?_
                        refine drGN 13248 rfl rfl h71 ?_
                        refine drGN 13312 rfl rfl h71 ?_
                        refine drGN 13376 rfl rfl h71 ?_
                        refine drGN 13440 rfl rfl h71 ?_
                        refine drGN 13504 rfl rfl h71 ?_
                        refine drGN 13568 rfl rfl h71 ?_
                        refine dr0 13632 rfl (ok (pick_t h71 (.d (eB true)) _)) (by kernel_rfl) ?_
                        refine hK70 _ _ ?_
                        simp only [thenK, blockK, keepE, updM, List.filter_cons, List.filter_nil, List.nil_append, List.cons_append, List.map_cons, List.map_nil, envE, Mem.get, Nat.reduceEqDiff, reduceIte, Option.isNone_none, Option.isNone_some, Bool.false_eq_true, List.length_cons, List.length_nil, Nat.reduceAdd, Nat.reduceMul]
                        exact hK65 _ _ _ ⟨_, _, Settled.refl, _, _, ⟨_, h, rfl, rfl⟩, ⟨rfl, ⟨⟨rfl, rfl⟩, ⟨⟨rfl, rfl⟩, ⟨⟨rfl, rfl⟩, ⟨⟨rfl, rfl⟩, ⟨⟨rfl, rfl⟩, ⟨⟨rfl, rfl⟩, ⟨⟨rfl, rfl⟩, ⟨⟨rfl, rfl⟩, trivial⟩⟩⟩⟩⟩⟩⟩⟩, ⟨⟨rfl, rfl⟩, ⟨⟨rfl, rfl⟩, ⟨⟨rfl, rfl⟩, trivial⟩⟩⟩⟩, rfl⟩
                      · replace h := ite_f h h71
                        refine drG (isF h71) ?_
                        refine dr0 13056 rfl (ok (mv (.ref 12416 y62.1.length 0 y62.1.length))) (by kernel_rfl) ?_
                        refine drG (isF h71) ?_
                        refine dr0 13120 rfl (ok (b2s (contR (xs := y62.1) rfl rfl rfl))) (by kernel_rfl) ?_
                        refine drG (isF h71) ?_
                        refine dr0 13184 rfl (ok (mv (.ref 2304 y20.1.length 0 y20.1.length))) (by kernel_rfl) ?_
                        refine drG (isF h71) ?_
                        refine dr0 13248 rfl (ok (mv (.d (eI v51)))) (by kernel_rfl) ?_
                        refine drG (isF h71) ?_
                        obtain ⟨h72, h⟩ := asq_inv h
                        refine dr0 13312 rfl (ok (iaR (xs := y20.1) (e := eTApiShare) rfl rfl h72)) (by kernel_rfl) ?_
                        refine drG (isF h71) ?_
                        refine dr0 13376 rfl (ok (fa_rk 1 rfl)) (by kernel_rfl) ?_
                        refine drG (isF h71) ?_
                        refine dr0 13440 rfl (ok (ld_rp (e := eTApiShare) (xs := y20.1) (v := (eL 1 eU8) ((y20.1.getD (0 + v51.toNat) (TApiShare.mk (0 : Int) ([] : List (BitVec 8)))).Data)) (TApiShare.mk (0 : Int) ([] : List (BitVec 8))) rfl rfl (by have := h72; simp at this ⊢; omega) rfl rfl rfl rfl)) (by kernel_rfl) ?_
                        refine drG (isF h71) ?_
                        refine dr0 13504 rfl (ok (b2s contL)) (by kernel_rfl) ?_
                        refine drG (isF h71) ?_
                        refine dr0 13568 rfl (ok (neqS y62.1 ((y20.1.getD (0 + v51.toNat) (TApiShare.mk (0 : Int) ([] : List (BitVec 8)))).Data))) (by kernel_rfl) ?_
                        refine dr0 13632 rfl (ok (pick_f h71 _ (.d (eB (!(y62.1 == ((y20.1.getD (0 + v51.toNat) (TApiShare.mk (0 : Int) ([] : List (BitVec 8)))).Data))))))) (by kernel_rfl) ?_
                        refine hK70 _ _ ?_
                        simp only [thenK, blockK, keepE, updM, List.filter_cons, List.filter_nil, List.nil_append, List.cons_append, List.map_cons, List.map_nil, envE, Mem.get, Nat.reduceEqDiff, reduceIte, Option.isNone_none, Option.isNone_some, Bool.false_eq_true, List.length_cons, List.length_nil, Nat.reduceAdd, Nat.reduceMul]
                        exact hK65 _ _ _ ⟨_, _, Settled.refl, _, _, ⟨_, h, rfl, rfl⟩, ⟨rfl, ⟨⟨rfl, rfl⟩, ⟨⟨rfl, rfl⟩, ⟨⟨rfl, rfl⟩, ⟨⟨rfl, rfl⟩, ⟨⟨rfl, rfl⟩, ⟨⟨rfl, rfl⟩, ⟨⟨rfl, rfl⟩, ⟨⟨rfl, rfl⟩, trivial⟩⟩⟩⟩⟩⟩⟩⟩, ⟨⟨rfl, rfl⟩, ⟨⟨rfl, rfl⟩, ⟨⟨rfl, rfl⟩, trivial⟩⟩⟩⟩, rfl⟩
                  · replace h := ite_f h h56
                    refine rwp_f (isF h56) ?_
                    refine rwp_exit ?_
                    refine hK50 _ _ _ ?_
                    exact hK41 _ _ _ ⟨_, _, Settled.refl, _, _, ⟨h, rfl, rfl⟩, ⟨rfl, ⟨⟨rfl, rfl⟩, ⟨⟨rfl, rfl⟩, ⟨⟨rfl, rfl⟩, trivial⟩⟩⟩, ⟨⟨rfl, rfl⟩, trivial⟩⟩, rfl⟩
            · refine rwp_seq fun K73 hK73 => ?_
              refine rwp_region fun K74 hK74 => ?_
              refine st0 6656 rfl (ok (mv (.d (eI (0 : Int))))) ?_
              refine hK74 _ _ ?_
              simp only [thenK, blockK, keepE, updM, List.filter_cons, List.filter_nil, List.nil_append, List.cons_append, List.map_cons, List.map_nil, envE, Mem.get, Nat.reduceEqDiff, reduceIte, Option.isNone_none, Option.isNone_some, Bool.false_eq_true, List.length_cons, List.length_nil, Nat.reduceAdd, Nat.reduceMul]
              refine hK73 _ _ _ ?_
              refine rwp_block fun K75 hK75 => ?_
              refine rwp_loop ([], []) 8448 (fun k env mem => ∃ (v76 : List (TApiShare)) (v77 : Int), passkeylaw37SharingRestoresL8 a0 a3 v8 y20 v33 k v76 v77 = some res ∧ env = [(0, .d ((eL 1 eU8) a0)), (11, .d (eI (w64 ((1 : Int) + ((a3 % (10#8)).toNat : Int))))), (12, .d (eI (w64 ((1 : Int) + v8)))), (13, .ref 2304 y20.1.length 0 y20.1.length), (15, .ref 5889 v76.length 0 v76.length), (16, .ptr 3328 0), (19, .d (eI v77))] ∧ mem = [(2304, .row true 2 (y20.1.map eTApiShare)), (5889, .row true 2 (v76.map eTApiShare)), (3328, .var .mine (v33.map fun x => .d (eB x)))]) FUEL ⟨_, _, Settled.refl, _, _, ⟨_, _, h, rfl, rfl⟩, ⟨rfl, ⟨⟨rfl, rfl⟩, ⟨⟨rfl, rfl⟩, ⟨⟨rfl, rfl⟩, ⟨⟨rfl, rfl⟩, ⟨⟨rfl, rfl⟩, ⟨⟨rfl, rfl⟩, ⟨⟨rfl, rfl⟩, trivial⟩⟩⟩⟩⟩⟩⟩, ⟨⟨rfl, rfl⟩, ⟨⟨rfl, rfl⟩, ⟨(by first | exact vara_ret rfl rfl | exact ⟨rfl, rfl⟩), trivial⟩⟩⟩⟩, rfl⟩ (fun k8 env1 mem1 hI K78 hK78 => ?_)
              obtain ⟨v76, v77, h, rfl, rfl⟩ := hI
              cases k8 with
              | zero => simp [passkeylaw37SharingRestoresL8] at h
              | succ k8 =>
                rw [passkeylaw37SharingRestoresL8] at h
                refine rwp_seq fun K79 hK79 => ?_
                refine rwp_join ([], []) 9088 (fun env mem => ∃ (v80 : Bool), passkeylaw37SharingRestoresJ9 (passkeylaw37SharingRestoresL8 a0 a3 v8 y20 v33 k8) a0 a3 y20 v33 v76 v77 v80 = some res ∧ env = [(0, .d ((eL 1 eU8) a0)), (11, .d (eI (w64 ((1 : Int) + ((a3 % (10#8)).toNat : Int))))), (12, .d (eI (w64 ((1 : Int) + v8)))), (13, .ref 2304 y20.1.length 0 y20.1.length), (15, .ref 5889 v76.length 0 v76.length), (16, .ptr 3328 0), (19, .d (eI v77)), (107, .d (eB v80))] ∧ mem = [(2304, .row true 2 (y20.1.map eTApiShare)), (5889, .row true 2 (v76.map eTApiShare)), (3328, .var .mine (v33.map fun x => .d (eB x)))]) (fun _ _ hI => ?_) (fun K81 hK81 => ?_)
                · obtain ⟨v80, h, rfl, rfl⟩ := hI
                  unfold passkeylaw37SharingRestoresJ9 at h
                  rcases Bool.eq_false_or_eq_true (v80) with h82 | h82
                  · replace h := ite_t h h82
                    refine rwp_t (isT h82) ?_
                    refine rwp_skip ?_
                    refine hK79 _ _ _ ?_
                    refine rwp_join ([], []) 9920 (fun env mem => ∃ (v83 : List (TApiShare)), passkeylaw37SharingRestoresJ10 (passkeylaw37SharingRestoresL8 a0 a3 v8 y20 v33 k8) v77 v83 = some res ∧ env = [(0, .d ((eL 1 eU8) a0)), (11, .d (eI (w64 ((1 : Int) + ((a3 % (10#8)).toNat : Int))))), (12, .d (eI (w64 ((1 : Int) + v8)))), (13, .ref 2304 y20.1.length 0 y20.1.length), (15, .ref 5889 v83.length 0 v83.length), (16, .ptr 3328 0), (19, .d (eI v77))] ∧ mem = [(2304, .row true 2 (y20.1.map eTApiShare)), (5889, .row true 2 (v83.map eTApiShare)), (3328, .var .mine (v33.map fun x => .d (eB x)))]) (fun _ _ hI => ?_) (fun K84 hK84 => ?_)
                    · obtain ⟨v83, h, rfl, rfl⟩ := hI
                      unfold passkeylaw37SharingRestoresJ10 at h
                      refine rwp_region fun K85 hK85 => ?_
                      refine st0 9984 rfl (ok (mv (.d (eI v77)))) ?_
                      refine st0 10048 rfl (ok (addI _ (1 : Int))) ?_
                      refine st0 10112 rfl (ok (mv (.d (eI (w64 (v77 + (1 : Int))))))) ?_
                      refine hK85 _ _ ?_
                      simp only [thenK, blockK, keepE, updM, List.filter_cons, List.filter_nil, List.nil_append, List.cons_append, List.map_cons, List.map_nil, envE, Mem.get, Nat.reduceEqDiff, reduceIte, Option.isNone_none, Option.isNone_some, Bool.false_eq_true, List.length_cons, List.length_nil, Nat.reduceAdd, Nat.reduceMul]
                      exact hK78.out _ _ _ k8 (Nat.lt_succ_self k8) ⟨_, _, Settled.refl, _, _, ⟨_, _, h, rfl, rfl⟩, ⟨rfl, ⟨⟨rfl, rfl⟩, ⟨⟨rfl, rfl⟩, ⟨⟨rfl, rfl⟩, ⟨⟨rfl, rfl⟩, ⟨⟨rfl, rfl⟩, ⟨⟨rfl, rfl⟩, ⟨⟨rfl, rfl⟩, trivial⟩⟩⟩⟩⟩⟩⟩, ⟨⟨rfl, rfl⟩, ⟨⟨rfl, rfl⟩, ⟨(by first | exact vara_ret rfl rfl | exact ⟨rfl, rfl⟩), trivial⟩⟩⟩⟩, rfl⟩
                    · refine rwp_block fun K86 hK86 => ?_
                      refine rwp_seq fun K87 hK87 => ?_
                      refine rwp_region fun K88 hK88 => ?_
                      refine st0 9152 rfl (ok (mv (.d (eI v77)))) ?_
                      obtain ⟨h89, h⟩ := asq_inv h
                      refine st0 9216 rfl (ok (iarr_1 h89)) ?_
                      obtain ⟨h90, h⟩ := asq_inv h
                      refine st0 9280 rfl (ok (ld_va (e := eB) (xs := v33) false rfl h90)) ?_
                      refine st0 9344 rfl (ok (notB _)) ?_
                      refine hK88 _ _ ?_
                      simp only [thenK, blockK, keepE, updM, List.filter_cons, List.filter_nil, List.nil_append, List.cons_append, List.map_cons, List.map_nil, envE, Mem.get, Nat.reduceEqDiff, reduceIte, Option.isNone_none, Option.isNone_some, Bool.false_eq_true, List.length_cons, List.length_nil, Nat.reduceAdd, Nat.reduceMul]
                      refine hK87 _ _ _ ?_
                      rcases Bool.eq_false_or_eq_true ((!(v33.getD v77.toNat false))) with h91 | h91
                      · replace h := ite_t h h91
                        refine rwp_t (isT h91) ?_
                        refine rwp_region fun K92 hK92 => ?_
                        refine st0 9408 rfl (ok (mv (.ref 5889 v76.length 0 v76.length))) ?_
                        refine st0 9472 rfl (ok (mv (.ref 2304 y20.1.length 0 y20.1.length))) ?_
                        refine st0 9536 rfl (ok (mv (.d (eI v77)))) ?_
                        obtain ⟨h93, h⟩ := asq_inv h
                        refine st0 9600 rfl (ok (iaR (xs := y20.1) (e := eTApiShare) rfl rfl h93)) ?_
                        refine st0 9664 rfl (ok (ld_r (e := eTApiShare) (xs := y20.1) (TApiShare.mk (0 : Int) ([] : List (BitVec 8))) rfl rfl (by have := h93; simp at this ⊢; omega) rfl)) ?_
                        refine st1 9728 rfl (mem' := [(9664, .row true 2 (([(y20.1.getD (0 + v77.toNat) (TApiShare.mk (0 : Int) ([] : List (BitVec 8))))] : List (TApiShare)).map eTApiShare)), (2304, .row true 2 (y20.1.map eTApiShare)), (5889, .row true 2 (v76.map eTApiShare)), (3328, .var .mine (v33.map fun x => .d (eB x)))]) (ok (bsl (e := eTApiShare) (ys := ([(y20.1.getD (0 + v77.toNat) (TApiShare.mk (0 : Int) ([] : List (BitVec 8))))] : List (TApiShare))) rfl rfl rfl)) rfl ?_
                        obtain ⟨h94, h⟩ := asq_inv h
                        refine st1 9792 rfl (mem' := [(5889, .row true 2 ((v76 ++ ([(y20.1.getD (0 + v77.toNat) (TApiShare.mk (0 : Int) ([] : List (BitVec 8))))] : List (TApiShare))).map eTApiShare)), (9664, .row true 2 (([(y20.1.getD (0 + v77.toNat) (TApiShare.mk (0 : Int) ([] : List (BitVec 8))))] : List (TApiShare)).map eTApiShare)), (2304, .row true 2 (y20.1.map eTApiShare)), (3328, .var .mine (v33.map fun x => .d (eB x)))]) (ok (appR (e := eTApiShare) (xs := v76) (ys := ([(y20.1.getD (0 + v77.toNat) (TApiShare.mk (0 : Int) ([] : List (BitVec 8))))] : List (TApiShare))) (contR (xs := ([(y20.1.getD (0 + v77.toNat) (TApiShare.mk (0 : Int) ([] : List (BitVec 8))))] : List (TApiShare))) rfl rfl rfl) rfl rfl rfl h94)) rfl ?_
                        refine st0 9856 rfl (ok (mv (.ref 5889 (((v76 ++ ([(y20.1.getD (0 + v77.toNat) (TApiShare.mk (0 : Int) ([] : List (BitVec 8))))] : List (TApiShare)))).length) 0 (((v76 ++ ([(y20.1.getD (0 + v77.toNat) (TApiShare.mk (0 : Int) ([] : List (BitVec 8))))] : List (TApiShare)))).length)))) ?_
                        refine hK92 _ _ ?_
                        simp only [thenK, blockK, keepE, updM, List.filter_cons, List.filter_nil, List.nil_append, List.cons_append, List.map_cons, List.map_nil, envE, Mem.get, Nat.reduceEqDiff, reduceIte, Option.isNone_none, Option.isNone_some, Bool.false_eq_true, List.length_cons, List.length_nil, Nat.reduceAdd, Nat.reduceMul]
                        refine hK86 _ _ _ ?_
                        exact hK84 _ _ _ ⟨_, _, Settled.refl, _, _, ⟨_, h, rfl, rfl⟩, ⟨rfl, ⟨⟨rfl, rfl⟩, ⟨⟨rfl, rfl⟩, ⟨⟨rfl, rfl⟩, ⟨⟨rfl, rfl⟩, ⟨⟨rfl, rfl⟩, ⟨⟨rfl, rfl⟩, ⟨⟨rfl, rfl⟩, trivial⟩⟩⟩⟩⟩⟩⟩, ⟨⟨rfl, rfl⟩, ⟨⟨rfl, rfl⟩, ⟨(by first | exact vara_ret rfl rfl | exact ⟨rfl, rfl⟩), trivial⟩⟩⟩⟩, rfl⟩
                      · replace h := ite_f h h91
                        refine rwp_f (isF h91) ?_
                        refine rwp_skip ?_
                        refine hK86 _ _ _ ?_
                        exact hK84 _ _ _ ⟨_, _, Settled.refl, _, _, ⟨_, h, rfl, rfl⟩, ⟨rfl, ⟨⟨rfl, rfl⟩, ⟨⟨rfl, rfl⟩, ⟨⟨rfl, rfl⟩, ⟨⟨rfl, rfl⟩, ⟨⟨rfl, rfl⟩, ⟨⟨rfl, rfl⟩, ⟨⟨rfl, rfl⟩, trivial⟩⟩⟩⟩⟩⟩⟩, ⟨⟨rfl, rfl⟩, ⟨⟨rfl, rfl⟩, ⟨(by first | exact vara_ret rfl rfl | exact ⟨rfl, rfl⟩), trivial⟩⟩⟩⟩, rfl⟩
                  · replace h := ite_f h h82
                    refine rwp_f (isF h82) ?_
                    refine rwp_exit ?_
                    refine hK75 _ _ _ ?_
                    exact hK36 _ _ _ ⟨_, _, Settled.refl, _, _, ⟨_, h, rfl, rfl⟩, ⟨rfl, ⟨⟨rfl, rfl⟩, ⟨⟨rfl, rfl⟩, ⟨⟨rfl, rfl⟩, ⟨⟨rfl, rfl⟩, trivial⟩⟩⟩⟩, ⟨⟨rfl, rfl⟩, ⟨⟨rfl, rfl⟩, trivial⟩⟩⟩, rfl⟩
                · refine rwp_region fun K95 hK95 => ?_
                  refine st0 8512 rfl (ok (mv (.d (eI v77)))) ?_
                  refine st0 8576 rfl (ok (mv (.d (eI (w64 ((1 : Int) + ((a3 % (10#8)).toNat : Int))))))) ?_
                  refine st0 8640 rfl (ok (lssI _ _)) ?_
                  refine st0 8704 rfl (ok (mv (.d (eB (decide (v77 < (w64 ((1 : Int) + ((a3 % (10#8)).toNat : Int))))))))) ?_
                  rcases Bool.eq_false_or_eq_true ((decide (v77 < (w64 ((1 : Int) + ((a3 % (10#8)).toNat : Int)))))) with h96 | h96
                  · replace h := ite_t h h96
                    refine stG (isT h96) ?_
                    refine st0 8768 rfl (ok (mv (.ref 5889 v76.length 0 v76.length))) ?_
                    refine stG (isT h96) ?_
                    refine st0 8832 rfl (ok (lenR _ _ _ _)) ?_
                    refine stG (isT h96) ?_
                    refine st0 8896 rfl (ok (mv (.d (eI (w64 ((1 : Int) + v8)))))) ?_
                    refine stG (isT h96) ?_
                    refine st0 8960 rfl (ok (lssI _ _)) ?_
                    refine st0 9024 rfl (ok (pick_t h96 (.d (eB (decide ((v76.length : Int) < (w64 ((1 : Int) + v8)))))) _)) ?_
                    refine hK95 _ _ ?_
                    simp only [thenK, blockK, keepE, updM, List.filter_cons, List.filter_nil, List.nil_append, List.cons_append, List.map_cons, List.map_nil, envE, Mem.get, Nat.reduceEqDiff, reduceIte, Option.isNone_none, Option.isNone_some, Bool.false_eq_true, List.length_cons, List.length_nil, Nat.reduceAdd, Nat.reduceMul]
                    exact hK81 _ _ _ ⟨_, _, Settled.refl, _, _, ⟨_, h, rfl, rfl⟩, ⟨rfl, ⟨⟨rfl, rfl⟩, ⟨⟨rfl, rfl⟩, ⟨⟨rfl, rfl⟩, ⟨⟨rfl, rfl⟩, ⟨⟨rfl, rfl⟩, ⟨⟨rfl, rfl⟩, ⟨⟨rfl, rfl⟩, ⟨⟨rfl, rfl⟩, trivial⟩⟩⟩⟩⟩⟩⟩⟩, ⟨⟨rfl, rfl⟩, ⟨⟨rfl, rfl⟩, ⟨(by first | exact vara_ret rfl rfl | exact ⟨rfl, rfl⟩), trivial⟩⟩⟩⟩, rfl⟩
                  · replace h := ite_f h h96
                    refine stGN 8768 rfl rfl h96 ?_
                    refine stGN 8832 rfl rfl h96 ?_
                    refine stGN 8896 rfl rfl h96 ?_
                    refine stGN 8960 rfl rfl h96 ?_
                    refine st0 9024 rfl (ok (pick_f h96 _ (.d (eB false)))) ?_
                    refine hK95 _ _ ?_
                    simp only [thenK, blockK, keepE, updM, List.filter_cons, List.filter_nil, List.nil_append, List.cons_append, List.map_cons, List.map_nil, envE, Mem.get, Nat.reduceEqDiff, reduceIte, Option.isNone_none, Option.isNone_some, Bool.false_eq_true, List.length_cons, List.length_nil, Nat.reduceAdd, Nat.reduceMul]
                    exact hK81 _ _ _ ⟨_, _, Settled.refl, _, _, ⟨_, h, rfl, rfl⟩, ⟨rfl, ⟨⟨rfl, rfl⟩, ⟨⟨rfl, rfl⟩, ⟨⟨rfl, rfl⟩, ⟨⟨rfl, rfl⟩, ⟨⟨rfl, rfl⟩, ⟨⟨rfl, rfl⟩, ⟨⟨rfl, rfl⟩, ⟨⟨rfl, rfl⟩, trivial⟩⟩⟩⟩⟩⟩⟩⟩, ⟨⟨rfl, rfl⟩, ⟨⟨rfl, rfl⟩, ⟨(by first | exact vara_ret rfl rfl | exact ⟨rfl, rfl⟩), trivial⟩⟩⟩⟩, rfl⟩
          · refine rwp_seq fun K97 hK97 => ?_
            refine rwp_region fun K98 hK98 => ?_
            refine st0 3456 rfl (ok (mv (.d (eI (0 : Int))))) ?_
            refine hK98 _ _ ?_
            simp only [thenK, blockK, keepE, updM, List.filter_cons, List.filter_nil, List.nil_append, List.cons_append, List.map_cons, List.map_nil, envE, Mem.get, Nat.reduceEqDiff, reduceIte, Option.isNone_none, Option.isNone_some, Bool.false_eq_true, List.length_cons, List.length_nil, Nat.reduceAdd, Nat.reduceMul]
            refine hK97 _ _ _ ?_
            refine rwp_block fun K99 hK99 => ?_
            refine rwp_loop ([(15, 5889)], []) 5952 (fun k env mem => ∃ (v100 : List (TApiShare)) (v101 : List (Bool)) (v102 : Int), passkeylaw37SharingRestoresL11 a0 a3 a4 v8 y20 k v100 v101 v102 = some res ∧ env = [(0, .d ((eL 1 eU8) a0)), (4, .d ((eL 1 eU8) a4)), (11, .d (eI (w64 ((1 : Int) + ((a3 % (10#8)).toNat : Int))))), (12, .d (eI (w64 ((1 : Int) + v8)))), (13, .ref 2304 y20.1.length 0 y20.1.length), (15, .ref 5889 v100.length 0 v100.length), (16, .ptr 3328 0), (17, .d (eI v102))] ∧ mem = [(2304, .row true 2 (y20.1.map eTApiShare)), (5889, .row true 2 (v100.map eTApiShare)), (3328, .var .mine (v101.map fun x => .d (eB x)))]) FUEL ⟨_, _, Settled.refl, _, _, ⟨_, _, _, h, rfl, rfl⟩, ⟨rfl, ⟨⟨rfl, rfl⟩, ⟨⟨rfl, rfl⟩, ⟨⟨rfl, rfl⟩, ⟨⟨rfl, rfl⟩, ⟨⟨rfl, rfl⟩, ⟨⟨rfl, rfl⟩, ⟨⟨rfl, rfl⟩, ⟨⟨rfl, rfl⟩, trivial⟩⟩⟩⟩⟩⟩⟩⟩, ⟨⟨rfl, rfl⟩, ⟨⟨rfl, rfl⟩, ⟨(by first | exact vara_ret rfl rfl | exact ⟨rfl, rfl⟩), trivial⟩⟩⟩⟩, rfl⟩ (fun k11 env1 mem1 hI K103 hK103 => ?_)
            obtain ⟨v100, v101, v102, h, rfl, rfl⟩ := hI
            cases k11 with
            | zero => simp [passkeylaw37SharingRestoresL11] at h
            | succ k11 =>
              rw [passkeylaw37SharingRestoresL11] at h
              refine rwp_seq fun K104 hK104 => ?_
              refine rwp_join ([], []) 6528 (fun env mem => ∃ (v105 : Bool), passkeylaw37SharingRestoresJ12 (passkeylaw37SharingRestoresL11 a0 a3 a4 v8 y20 k11) a0 a3 a4 v8 y20 v100 v101 v102 v105 = some res ∧ env = [(0, .d ((eL 1 eU8) a0)), (4, .d ((eL 1 eU8) a4)), (11, .d (eI (w64 ((1 : Int) + ((a3 % (10#8)).toNat : Int))))), (12, .d (eI (w64 ((1 : Int) + v8)))), (13, .ref 2304 y20.1.length 0 y20.1.length), (15, .ref 5889 v100.length 0 v100.length), (16, .ptr 3328 0), (17, .d (eI v102)), (76, .d (eB v105))] ∧ mem = [(2304, .row true 2 (y20.1.map eTApiShare)), (5889, .row true 2 (v100.map eTApiShare)), (3328, .var .mine (v101.map fun x => .d (eB x)))]) (fun _ _ hI => ?_) (fun K106 hK106 => ?_)
              · obtain ⟨v105, h, rfl, rfl⟩ := hI
                unfold passkeylaw37SharingRestoresJ12 at h
                rcases Bool.eq_false_or_eq_true (v105) with h107 | h107
                · replace h := ite_t h h107
                  refine rwp_t (isT h107) ?_
                  refine rwp_skip ?_
                  refine hK104 _ _ _ ?_
                  refine rwp_join ([], []) 8064 (fun env mem => ∃ (v108 : List (TApiShare)) (v109 : List (Bool)), passkeylaw37SharingRestoresJ13 (passkeylaw37SharingRestoresL11 a0 a3 a4 v8 y20 k11) v102 v108 v109 = some res ∧ env = [(0, .d ((eL 1 eU8) a0)), (4, .d ((eL 1 eU8) a4)), (11, .d (eI (w64 ((1 : Int) + ((a3 % (10#8)).toNat : Int))))), (12, .d (eI (w64 ((1 : Int) + v8)))), (13, .ref 2304 y20.1.length 0 y20.1.length), (15, .ref 5889 v108.length 0 v108.length), (16, .ptr 3328 0), (17, .d (eI v102))] ∧ mem = [(2304, .row true 2 (y20.1.map eTApiShare)), (5889, .row true 2 (v108.map eTApiShare)), (3328, .var .mine (v109.map fun x => .d (eB x)))]) (fun _ _ hI => ?_) (fun K110 hK110 => ?_)
                  · obtain ⟨v108, v109, h, rfl, rfl⟩ := hI
                    unfold passkeylaw37SharingRestoresJ13 at h
                    refine rwp_region fun K111 hK111 => ?_
                    refine st0 8128 rfl (ok (mv (.d (eI v102)))) ?_
                    refine st0 8192 rfl (ok (addI _ (1 : Int))) ?_
                    refine st0 8256 rfl (ok (mv (.d (eI (w64 (v102 + (1 : Int))))))) ?_
                    refine hK111 _ _ ?_
                    simp only [thenK, blockK, keepE, updM, List.filter_cons, List.filter_nil, List.nil_append, List.cons_append, List.map_cons, List.map_nil, envE, Mem.get, Nat.reduceEqDiff, reduceIte, Option.isNone_none, Option.isNone_some, Bool.false_eq_true, List.length_cons, List.length_nil, Nat.reduceAdd, Nat.reduceMul]
                    exact hK103.out _ _ _ k11 (Nat.lt_succ_self k11) ⟨_, _, Settled.refl, _, _, ⟨_, _, _, h, rfl, rfl⟩, ⟨rfl, ⟨⟨rfl, rfl⟩, ⟨⟨rfl, rfl⟩, ⟨⟨rfl, rfl⟩, ⟨⟨rfl, rfl⟩, ⟨⟨rfl, rfl⟩, ⟨⟨rfl, rfl⟩, ⟨⟨rfl, rfl⟩, ⟨⟨rfl, rfl⟩, trivial⟩⟩⟩⟩⟩⟩⟩⟩, ⟨⟨rfl, rfl⟩, ⟨⟨rfl, rfl⟩, ⟨(by first | exact vara_ret rfl rfl | exact ⟨rfl, rfl⟩), trivial⟩⟩⟩⟩, rfl⟩
                  · refine rwp_block fun K112 hK112 => ?_
                    refine rwp_seq fun K113 hK113 => ?_
                    refine rwp_region fun K114 hK114 => ?_
                    refine st0 6592 rfl (ok (mv (.d ((eL 1 eU8) a4)))) ?_
                    refine st0 6656 rfl (ok (mv (.d (eI v102)))) ?_
                    obtain ⟨h115, h⟩ := asq_inv h
                    refine st0 6720 rfl (ok (iaL (e := eU8) (xs := a4) 0#8 h115)) ?_
                    refine st0 6784 rfl (ok (ld_i (v := eU8 (a4.getD v102.toNat 0#8)) rfl rfl)) ?_
                    refine st0 6848 rfl (ok (toI8 _)) ?_
                    refine st0 6912 rfl (ok (mv (.d (eI (w64 ((1 : Int) + ((a3 % (10#8)).toNat : Int))))))) ?_
                    obtain ⟨h116, h⟩ := asq_inv h
                    obtain ⟨v117, h118, h⟩ := lett_inv h
                    refine st0e 6976 rfl (ok (remI _ _ h116)) (congrArg (fun z => PV.d (eI z)) h118) ?_
                    refine st0 7040 rfl (ok (mv (.d (eI v117)))) ?_
                    refine hK114 _ _ ?_
                    simp only [thenK, blockK, keepE, updM, List.filter_cons, List.filter_nil, List.nil_append, List.cons_append, List.map_cons, List.map_nil, envE, Mem.get, Nat.reduceEqDiff, reduceIte, Option.isNone_none, Option.isNone_some, Bool.false_eq_true, List.length_cons, List.length_nil, Nat.reduceAdd, Nat.reduceMul]
                    refine hK113 _ _ _ ?_
                    refine rwp_seq fun K119 hK119 => ?_
                    refine rwp_region fun K120 hK120 => ?_
                    refine st0 7104 rfl (ok (mv (.d (eI v117)))) ?_
                    obtain ⟨h121, h⟩ := asq_inv h
                    refine st0 7168 rfl (ok (iarr_1 h121)) ?_
                    obtain ⟨h122, h⟩ := asq_inv h
                    refine st0 7232 rfl (ok (ld_va (e := eB) (xs := v101) false rfl h122)) ?_
                    refine st0 7296 rfl (ok (notB _)) ?_
                    refine hK120 _ _ ?_
                    simp only [thenK, blockK, keepE, updM, List.filter_cons, List.filter_nil, List.nil_append, List.cons_append, List.map_cons, List.map_nil, envE, Mem.get, Nat.reduceEqDiff, reduceIte, Option.isNone_none, Option.isNone_some, Bool.false_eq_true, List.length_cons, List.length_nil, Nat.reduceAdd, Nat.reduceMul]
                    refine hK119 _ _ _ ?_
                    rcases Bool.eq_false_or_eq_true ((!(v101.getD v117.toNat false))) with h123 | h123
                    · replace h := ite_t h h123
                      refine rwp_t (isT h123) ?_
                      refine rwp_seq fun K124 hK124 => ?_
                      refine rwp_region fun K125 hK125 => ?_
                      refine st0 7360 rfl (ok (mv (.d (eI v117)))) ?_
                      obtain ⟨h126, h⟩ := asq_inv h
                      refine st0 7424 rfl (ok (iarr_1 h126)) ?_
                      obtain ⟨h127, h⟩ := asq_inv h
                      refine stn 7488 rfl (mem' := [(3328, .var .mine ((v101.set v117.toNat true).map fun x => .d (eB x))), (2304, .row true 2 (y20.1.map eTApiShare)), (5889, .row true 2 (v100.map eTApiShare))]) (ok (sto_va (e := eB) (xs := v101) (y := true) rfl rfl h127 rfl)) rfl ?_
                      refine hK125 _ _ ?_
                      simp only [thenK, blockK, keepE, updM, List.filter_cons, List.filter_nil, List.nil_append, List.cons_append, List.map_cons, List.map_nil, envE, Mem.get, Nat.reduceEqDiff, reduceIte, Option.isNone_none, Option.isNone_some, Bool.false_eq_true, List.length_cons, List.length_nil, Nat.reduceAdd, Nat.reduceMul]
                      refine hK124 _ _ _ ?_
                      refine rwp_region fun K128 hK128 => ?_
                      refine st0 7552 rfl (ok (mv (.ref 5889 v100.length 0 v100.length))) ?_
                      refine st0 7616 rfl (ok (mv (.ref 2304 y20.1.length 0 y20.1.length))) ?_
                      refine st0 7680 rfl (ok (mv (.d (eI v117)))) ?_
                      obtain ⟨h129, h⟩ := asq_inv h
                      refine st0 7744 rfl (ok (iaR (xs := y20.1) (e := eTApiShare) rfl rfl h129)) ?_
                      refine st0 7808 rfl (ok (ld_r (e := eTApiShare) (xs := y20.1) (TApiShare.mk (0 : Int) ([] : List (BitVec 8))) rfl rfl (by have := h129; simp at this ⊢; omega) rfl)) ?_
                      refine st1 7872 rfl (mem' := [(7808, .row true 2 (([(y20.1.getD (0 + v117.toNat) (TApiShare.mk (0 : Int) ([] : List (BitVec 8))))] : List (TApiShare)).map eTApiShare)), (3328, .var .mine ((v101.set v117.toNat true).map fun x => .d (eB x))), (2304, .row true 2 (y20.1.map eTApiShare)), (5889, .row true 2 (v100.map eTApiShare))]) (ok (bsl (e := eTApiShare) (ys := ([(y20.1.getD (0 + v117.toNat) (TApiShare.mk (0 : Int) ([] : List (BitVec 8))))] : List (TApiShare))) rfl rfl rfl)) rfl ?_
                      obtain ⟨h130, h⟩ := asq_inv h
                      refine st1 7936 rfl (mem' := [(5889, .row true 2 ((v100 ++ ([(y20.1.getD (0 + v117.toNat) (TApiShare.mk (0 : Int) ([] : List (BitVec 8))))] : List (TApiShare))).map eTApiShare)), (7808, .row true 2 (([(y20.1.getD (0 + v117.toNat) (TApiShare.mk (0 : Int) ([] : List (BitVec 8))))] : List (TApiShare)).map eTApiShare)), (3328, .var .mine ((v101.set v117.toNat true).map fun x => .d (eB x))), (2304, .row true 2 (y20.1.map eTApiShare))]) (ok (appR (e := eTApiShare) (xs := v100) (ys := ([(y20.1.getD (0 + v117.toNat) (TApiShare.mk (0 : Int) ([] : List (BitVec 8))))] : List (TApiShare))) (contR (xs := ([(y20.1.getD (0 + v117.toNat) (TApiShare.mk (0 : Int) ([] : List (BitVec 8))))] : List (TApiShare))) rfl rfl rfl) rfl rfl rfl h130)) rfl ?_
                      refine st0 8000 rfl (ok (mv (.ref 5889 (((v100 ++ ([(y20.1.getD (0 + v117.toNat) (TApiShare.mk (0 : Int) ([] : List (BitVec 8))))] : List (TApiShare)))).length) 0 (((v100 ++ ([(y20.1.getD (0 + v117.toNat) (TApiShare.mk (0 : Int) ([] : List (BitVec 8))))] : List (TApiShare)))).length)))) ?_
                      refine hK128 _ _ ?_
                      simp only [thenK, blockK, keepE, updM, List.filter_cons, List.filter_nil, List.nil_append, List.cons_append, List.map_cons, List.map_nil, envE, Mem.get, Nat.reduceEqDiff, reduceIte, Option.isNone_none, Option.isNone_some, Bool.false_eq_true, List.length_cons, List.length_nil, Nat.reduceAdd, Nat.reduceMul]
                      refine hK112 _ _ _ ?_
                      exact hK110 _ _ _ ⟨_, _, Settled.refl, _, _, ⟨_, _, h, rfl, rfl⟩, ⟨rfl, ⟨⟨rfl, rfl⟩, ⟨⟨rfl, rfl⟩, ⟨⟨rfl, rfl⟩, ⟨⟨rfl, rfl⟩, ⟨⟨rfl, rfl⟩, ⟨⟨rfl, rfl⟩, ⟨⟨rfl, rfl⟩, ⟨⟨rfl, rfl⟩, trivial⟩⟩⟩⟩⟩⟩⟩⟩, ⟨⟨rfl, rfl⟩, ⟨⟨rfl, rfl⟩, ⟨(by first | exact vara_ret rfl rfl | exact ⟨rfl, rfl⟩), trivial⟩⟩⟩⟩, rfl⟩
                    · replace h := ite_f h h123
                      refine rwp_f (isF h123) ?_
                      refine rwp_skip ?_
                      refine hK112 _ _ _ ?_
                      exact hK110 _ _ _ ⟨_, _, Settled.refl, _, _, ⟨_, _, h, rfl, rfl⟩, ⟨rfl, ⟨⟨rfl, rfl⟩, ⟨⟨rfl, rfl⟩, ⟨⟨rfl, rfl⟩, ⟨⟨rfl, rfl⟩, ⟨⟨rfl, rfl⟩, ⟨⟨rfl, rfl⟩, ⟨⟨rfl, rfl⟩, ⟨⟨rfl, rfl⟩, trivial⟩⟩⟩⟩⟩⟩⟩⟩, ⟨⟨rfl, rfl⟩, ⟨⟨rfl, rfl⟩, ⟨(by first | exact vara_ret rfl rfl | exact ⟨rfl, rfl⟩), trivial⟩⟩⟩⟩, rfl⟩
                · replace h := ite_f h h107
                  refine rwp_f (isF h107) ?_
                  refine rwp_exit ?_
                  refine hK99 _ _ _ ?_
                  exact hK34 _ _ _ ⟨_, _, Settled.refl, _, _, ⟨_, _, h, rfl, rfl⟩, ⟨rfl, ⟨⟨rfl, rfl⟩, ⟨⟨rfl, rfl⟩, ⟨⟨rfl, rfl⟩, ⟨⟨rfl, rfl⟩, ⟨⟨rfl, rfl⟩, ⟨⟨rfl, rfl⟩, trivial⟩⟩⟩⟩⟩⟩, ⟨⟨rfl, rfl⟩, ⟨⟨rfl, rfl⟩, ⟨(by first | exact vara_ret rfl rfl | exact ⟨rfl, rfl⟩), trivial⟩⟩⟩⟩, rfl⟩
              · refine rwp_region fun K131 hK131 => ?_
                refine st0 6016 rfl (ok (mv (.d (eI v102)))) ?_
                refine st0 6080 rfl (ok (mv (.d ((eL 1 eU8) a4)))) ?_
                refine st0 6144 rfl (ok (lenL _ _)) ?_
                refine st0 6208 rfl (ok (lssI _ _)) ?_
                refine st0 6272 rfl (ok (mv (.d (eB (decide (v102 < (a4.length : Int))))))) ?_
                rcases Bool.eq_false_or_eq_true ((decide (v102 < (a4.length : Int)))) with h132 | h132
                · replace h := ite_t h h132
                  refine stG (isT h132) ?_
                  refine st0 6336 rfl (ok (mv (.d (eI v102)))) ?_
                  refine stG (isT h132) ?_
                  refine st0 6400 rfl (ok (lssI _ (30 : Int))) ?_
                  refine st0 6464 rfl (ok (pick_t h132 (.d (eB (decide (v102 < (30 : Int))))) _)) ?_
                  refine hK131 _ _ ?_
                  simp only [thenK, blockK, keepE, updM, List.filter_cons, List.filter_nil, List.nil_append, List.cons_append, List.map_cons, List.map_nil, envE, Mem.get, Nat.reduceEqDiff, reduceIte, Option.isNone_none, Option.isNone_some, Bool.false_eq_true, List.length_cons, List.length_nil, Nat.reduceAdd, Nat.reduceMul]
                  exact hK106 _ _ _ ⟨_, _, Settled.refl, _, _, ⟨_, h, rfl, rfl⟩, ⟨rfl, ⟨⟨rfl, rfl⟩, ⟨⟨rfl, rfl⟩, ⟨⟨rfl, rfl⟩, ⟨⟨rfl, rfl⟩, ⟨⟨rfl, rfl⟩, ⟨⟨rfl, rfl⟩, ⟨⟨rfl, rfl⟩, ⟨⟨rfl, rfl⟩, ⟨⟨rfl, rfl⟩, trivial⟩⟩⟩⟩⟩⟩⟩⟩⟩, ⟨⟨rfl, rfl⟩, ⟨⟨rfl, rfl⟩, ⟨(by first | exact vara_ret rfl rfl | exact ⟨rfl, rfl⟩), trivial⟩⟩⟩⟩, rfl⟩
                · replace h := ite_f h h132
                  refine stGN 6336 rfl rfl h132 ?_
                  refine stGN 6400 rfl rfl h132 ?_
                  refine st0 6464 rfl (ok (pick_f h132 _ (.d (eB false)))) ?_
                  refine hK131 _ _ ?_
                  simp only [thenK, blockK, keepE, updM, List.filter_cons, List.filter_nil, List.nil_append, List.cons_append, List.map_cons, List.map_nil, envE, Mem.get, Nat.reduceEqDiff, reduceIte, Option.isNone_none, Option.isNone_some, Bool.false_eq_true, List.length_cons, List.length_nil, Nat.reduceAdd, Nat.reduceMul]
                  exact hK106 _ _ _ ⟨_, _, Settled.refl, _, _, ⟨_, h, rfl, rfl⟩, ⟨rfl, ⟨⟨rfl, rfl⟩, ⟨⟨rfl, rfl⟩, ⟨⟨rfl, rfl⟩, ⟨⟨rfl, rfl⟩, ⟨⟨rfl, rfl⟩, ⟨⟨rfl, rfl⟩, ⟨⟨rfl, rfl⟩, ⟨⟨rfl, rfl⟩, ⟨⟨rfl, rfl⟩, trivial⟩⟩⟩⟩⟩⟩⟩⟩⟩, ⟨⟨rfl, rfl⟩, ⟨⟨rfl, rfl⟩, ⟨(by first | exact vara_ret rfl rfl | exact ⟨rfl, rfl⟩), trivial⟩⟩⟩⟩, rfl⟩
      · refine rwp_region fun K133 hK133 => ?_
        refine st0 2752 rfl (ok (mv (.d (eI y20.2)))) ?_
        refine st0 2816 rfl (ok (neqI _ (0 : Int))) ?_
        refine st0 2880 rfl (ok (mv (.d (eB (y20.2 != (0 : Int)))))) ?_
        rcases Bool.eq_false_or_eq_true ((y20.2 != (0 : Int))) with h134 | h134
        · replace h := ite_t h h134
          refine stGN 2944 rfl rfl h134 ?_
          refine stGN 3008 rfl rfl h134 ?_
          refine stGN 3072 rfl rfl h134 ?_
          refine stGN 3136 rfl rfl h134 ?_
          refine st0 3200 rfl (ok (pick_t h134 (.d (eB true)) _)) ?_
          refine hK133 _ _ ?_
          simp only [thenK, blockK, keepE, updM, List.filter_cons, List.filter_nil, List.nil_append, List.cons_append, List.map_cons, List.map_nil, envE, Mem.get, Nat.reduceEqDiff, reduceIte, Option.isNone_none, Option.isNone_some, Bool.false_eq_true, List.length_cons, List.length_nil, Nat.reduceAdd, Nat.reduceMul]
          exact hK24 _ _ _ ⟨_, _, Settled.refl, _, _, ⟨_, h, rfl, rfl⟩, ⟨rfl, ⟨⟨rfl, rfl⟩, ⟨⟨rfl, rfl⟩, ⟨⟨rfl, rfl⟩, ⟨⟨rfl, rfl⟩, ⟨⟨rfl, rfl⟩, ⟨⟨rfl, rfl⟩, trivial⟩⟩⟩⟩⟩⟩, ⟨⟨rfl, rfl⟩, trivial⟩⟩, rfl⟩
        · replace h := ite_f h h134
          refine stG (isF h134) ?_
          refine st0 2944 rfl (ok (mv (.ref 2304 y20.1.length 0 y20.1.length))) ?_
          refine stG (isF h134) ?_
          refine st0 3008 rfl (ok (lenR _ _ _ _)) ?_
          refine stG (isF h134) ?_
          refine st0 3072 rfl (ok (mv (.d (eI (w64 ((1 : Int) + ((a3 % (10#8)).toNat : Int))))))) ?_
          refine stG (isF h134) ?_
          refine st0 3136 rfl (ok (neqI _ _)) ?_
          refine st0 3200 rfl (ok (pick_f h134 _ (.d (eB ((y20.1.length : Int) != (w64 ((1 : Int) + ((a3 % (10#8)).toNat : Int)))))))) ?_
          refine hK133 _ _ ?_
          simp only [thenK, blockK, keepE, updM, List.filter_cons, List.filter_nil, List.nil_append, List.cons_append, List.map_cons, List.map_nil, envE, Mem.get, Nat.reduceEqDiff, reduceIte, Option.isNone_none, Option.isNone_some, Bool.false_eq_true, List.length_cons, List.length_nil, Nat.reduceAdd, Nat.reduceMul]
          exact hK24 _ _ _ ⟨_, _, Settled.refl, _, _, ⟨_, h, rfl, rfl⟩, ⟨rfl, ⟨⟨rfl, rfl⟩, ⟨⟨rfl, rfl⟩, ⟨⟨rfl, rfl⟩, ⟨⟨rfl, rfl⟩, ⟨⟨rfl, rfl⟩, ⟨⟨rfl, rfl⟩, trivial⟩⟩⟩⟩⟩⟩, ⟨⟨rfl, rfl⟩, trivial⟩⟩, rfl⟩
  · refine rwp_region fun K135 hK135 => ?_
    refine st0 896 rfl (ok (mv (.d ((eL 1 eU8) a0)))) ?_
    refine st0 960 rfl (ok (lenL _ _)) ?_
    refine st0 1024 rfl (ok (gtrI _ (20 : Int))) ?_
    refine st0 1088 rfl (ok (mv (.d (eB (decide ((20 : Int) < (a0.length : Int))))))) ?_
    rcases Bool.eq_false_or_eq_true ((decide ((20 : Int) < (a0.length : Int)))) with h136 | h136
    · replace h := ite_t h h136
      refine stGN 1152 rfl rfl h136 ?_
      refine stGN 1216 rfl rfl h136 ?_
      refine stGN 1280 rfl rfl h136 ?_
      refine stGN 1344 rfl rfl h136 ?_
      refine stGN 1408 rfl rfl h136 ?_
      refine stGN 1472 rfl rfl h136 ?_
      refine stGN 1536 rfl rfl h136 ?_
      refine stGN 1600 rfl rfl h136 ?_
      refine st0 1664 rfl (ok (pick_t h136 (.d (eB true)) _)) ?_
      refine st0 1728 rfl (ok (mv (.d (eB true)))) ?_
      refine stGN 1792 rfl rfl rfl ?_
      refine stGN 1856 rfl rfl rfl ?_
      refine stGN 1920 rfl rfl rfl ?_
      refine st0 1984 rfl (ok (pick_t rfl (.d (eB true)) _)) ?_
      refine hK135 _ _ ?_
      simp only [thenK, blockK, keepE, updM, List.filter_cons, List.filter_nil, List.nil_append, List.cons_append, List.map_cons, List.map_nil, envE, Mem.get, Nat.reduceEqDiff, reduceIte, Option.isNone_none, Option.isNone_some, Bool.false_eq_true, List.length_cons, List.length_nil, Nat.reduceAdd, Nat.reduceMul]
      exact hK12 _ _ _ ⟨_, _, Settled.refl, _, _, ⟨_, h, rfl, rfl⟩, ⟨rfl, ⟨⟨rfl, rfl⟩, ⟨⟨rfl, rfl⟩, ⟨⟨rfl, rfl⟩, ⟨⟨rfl, rfl⟩, ⟨⟨rfl, rfl⟩, ⟨⟨rfl, rfl⟩, trivial⟩⟩⟩⟩⟩⟩, trivial⟩, rfl⟩
    · replace h := ite_f h h136
      refine stG (isF h136) ?_
      refine st0 1152 rfl (ok (mv (.d ((eL 1 eU8) a1)))) ?_
      refine stG (isF h136) ?_
      refine st0 1216 rfl (ok (lenL _ _)) ?_
      refine stG (isF h136) ?_
      refine st0 1280 rfl (ok (mv (.d (eI (w64 ((1 : Int) + v8)))))) ?_
      refine stG (isF h136) ?_
      refine st0 1344 rfl (ok (subI _ (1 : Int))) ?_
      refine stG (isF h136) ?_
      refine st0 1408 rfl (ok (mv (.d ((eL 1 eU8) a0)))) ?_
      refine stG (isF h136) ?_
      refine st0 1472 rfl (ok (lenL _ _)) ?_
      refine stG (isF h136) ?_
      obtain ⟨v137, h138, h⟩ := lett_inv h
      refine st0e 1536 rfl (ok (mulI _ _)) (congrArg (fun z => PV.d (eI z)) h138) ?_
      refine stG (isF h136) ?_
      refine st0 1600 rfl (ok (lssI _ _)) ?_
      refine st0 1664 rfl (ok (pick_f h136 _ (.d (eB (decide ((a1.length : Int) < v137)))))) ?_
      refine st0 1728 rfl (ok (mv (.d (eB (decide ((a1.length : Int) < v137)))))) ?_
      rcases Bool.eq_false_or_eq_true ((decide ((a1.length : Int) < v137))) with h139 | h139
      · replace h := ite_t h h139
        refine stGN 1792 rfl rfl h139 ?_
        refine stGN 1856 rfl rfl h139 ?_
        refine stGN 1920 rfl rfl h139 ?_
        refine st0 1984 rfl (ok (pick_t h139 (.d (eB true)) _)) ?_
        refine hK135 _ _ ?_
        simp only [thenK, blockK, keepE, updM, List.filter_cons, List.filter_nil, List.nil_append, List.cons_append, List.map_cons, List.map_nil, envE, Mem.get, Nat.reduceEqDiff, reduceIte, Option.isNone_none, Option.isNone_some, Bool.false_eq_true, List.length_cons, List.length_nil, Nat.reduceAdd, Nat.reduceMul]
        exact hK12 _ _ _ ⟨_, _, Settled.refl, _, _, ⟨_, h, rfl, rfl⟩, ⟨rfl, ⟨⟨rfl, rfl⟩, ⟨⟨rfl, rfl⟩, ⟨⟨rfl, rfl⟩, ⟨⟨rfl, rfl⟩, ⟨⟨rfl, rfl⟩, ⟨⟨rfl, rfl⟩, trivial⟩⟩⟩⟩⟩⟩, trivial⟩, rfl⟩
      · replace h := ite_f h h139
        refine stG (isF h139) ?_
        refine st0 1792 rfl (ok (mv (.d ((eL 1 eU8) a1)))) ?_
        refine stG (isF h139) ?_
        refine st0 1856 rfl (ok (lenL _ _)) ?_
        refine stG (isF h139) ?_
        refine st0 1920 rfl (ok (gtrI _ (400 : Int))) ?_
        refine st0 1984 rfl (ok (pick_f h139 _ (.d (eB (decide ((400 : Int) < (a1.length : Int))))))) ?_
        refine hK135 _ _ ?_
        simp only [thenK, blockK, keepE, updM, List.filter_cons, List.filter_nil, List.nil_append, List.cons_append, List.map_cons, List.map_nil, envE, Mem.get, Nat.reduceEqDiff, reduceIte, Option.isNone_none, Option.isNone_some, Bool.false_eq_true, List.length_cons, List.length_nil, Nat.reduceAdd, Nat.reduceMul]
        exact hK12 _ _ _ ⟨_, _, Settled.refl, _, _, ⟨_, h, rfl, rfl⟩, ⟨rfl, ⟨⟨rfl, rfl⟩, ⟨⟨rfl, rfl⟩, ⟨⟨rfl, rfl⟩, ⟨⟨rfl, rfl⟩, ⟨⟨rfl, rfl⟩, ⟨⟨rfl, rfl⟩, trivial⟩⟩⟩⟩⟩⟩, trivial⟩, rfl⟩

end Go.Proofs.Ty
