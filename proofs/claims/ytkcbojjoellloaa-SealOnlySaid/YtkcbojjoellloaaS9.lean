/- Each Go function comes to what its plain function says. PRINTED by a program of this session (ty.py). -/
import Derived.Test.YtkcbojjoellloaaS8
set_option linter.unusedVariables false
set_option linter.unusedSimpArgs false
set_option maxHeartbeats 4000000
set_option maxRecDepth 10000
namespace Go.Proofs.Ty
open Go Go.RW Go.Proofs
/-- passkey/passkeylaw6.SealLimits -/
def passkeylaw6SealLimitsH : Hints := ⟨[(0, [0]), (1, [3]), (2, [3, 4, 5]), (3, [3, 4, 5, 6, 7]), (4, [3, 4, 5, 6, 7, 9]), (5, [3, 4, 5, 6, 7, 9, 11]), (6, [3, 4, 5, 6, 7, 9, 11, 12]), (7, [3, 4, 5, 6, 7, 9, 11, 12, 13]), (8, [3, 4, 5, 6, 7, 9, 11, 12, 13, 51]), (9, [3, 4, 5, 6, 7, 9, 11, 12, 13]), (10, [3, 4, 5, 6, 7, 9, 11, 12, 13, 15]), (11, [3, 4, 5, 6, 7, 9, 11, 12, 13, 15, 17]), (12, [2])], []⟩
def passkeylaw6SealLimitsRc : RCode :=
  .seq (.region false [⟨some 2, .mv, [.k (.d (.bool false))], none, []⟩] [0]) (.seq (.region false [⟨some 18, .mv, [.t 0], none, []⟩, ⟨some 19, .bin .rem, [.t 18, .k (.d (.int .u8
  5))], none, []⟩, ⟨some 20, .cvt .i64, [.t 19], none, []⟩, ⟨some 21, .bin .add, [.k (.d (.int .i64 1022)), .t 20], none, []⟩, ⟨some 3, .mv, [.t 21], none, []⟩] [3]) (.seq (.region
  true [⟨some 23, .mv, [.t 3], none, []⟩, ⟨some 24, .mks 1 false [.d (.int .u8 0)] 281474976710656, [.t 23, .t 23], none, [0]⟩, ⟨some 25, .mks 1 false [.d (.int .u8 0)]
  281474976710656, [.k (.d (.int .i64 5)), .k (.d (.int .i64 5))], none, []⟩, ⟨some 26, .call 13 true, [.k (.d (.int .u64 3)), .k (.d (.int .u64 4)), .t 24, .t 25], none, [0, 1,
  2]⟩, ⟨some 22, .mv, [.t 26], none, [0, 1, 2, 3]⟩, ⟨some 27, .ext 0, [.t 22], none, [0, 1, 2, 3, 4]⟩, ⟨some 28, .ext 1, [.t 22], none, [0, 1, 2, 3, 4]⟩, ⟨some 4, .mv, [.t 27],
  none, [0, 1, 2, 3, 4, 5]⟩, ⟨some 5, .mv, [.t 28], none, [0, 1, 2, 3, 4, 5, 6, 7]⟩] [3, 4, 5]) (.seq (.region true [⟨some 30, .mks 1 false [.d (.int .u8 0)] 281474976710656, [.k
  (.d (.int .i64 5)), .k (.d (.int .i64 5))], none, []⟩, ⟨some 31, .mv, [.t 3], none, []⟩, ⟨some 32, .mks 1 false [.d (.int .u8 0)] 281474976710656, [.t 31, .t 31], none, [1]⟩,
  ⟨some 33, .call 13 true, [.k (.d (.int .u64 3)), .k (.d (.int .u64 4)), .t 30, .t 32], none, [0, 1, 2]⟩, ⟨some 29, .mv, [.t 33], none, [0, 1, 2, 3]⟩, ⟨some 34, .ext 0, [.t 29],
  none, [0, 1, 2, 3, 4]⟩, ⟨some 35, .ext 1, [.t 29], none, [0, 1, 2, 3, 4]⟩, ⟨some 6, .mv, [.t 34], none, [0, 1, 2, 3, 4, 5]⟩, ⟨some 7, .mv, [.t 35], none, [0, 1, 2, 3, 4, 5, 6,
  7]⟩] [3, 4, 5, 6, 7]) (.seq (.region false [⟨some 37, .mv, [.t 3], none, []⟩, ⟨some 38, .bin .add, [.t 37, .k (.d (.int .i64 16))], none, []⟩, ⟨some 39, .mks 1 false [.d (.int
  .u8 0)] 281474976710656, [.t 38, .t 38], none, []⟩, ⟨some 40, .call 16 true, [.k (.d (.int .u64 3)), .k (.nil 1), .t 39], none, []⟩, ⟨some 36, .mv, [.t 40], none, []⟩, ⟨some 41,
  .ext 0, [.t 36], none, []⟩, ⟨some 42, .ext 1, [.t 36], none, []⟩, ⟨some 8, .mv, [.t 41], none, []⟩, ⟨some 9, .mv, [.t 42], none, []⟩] [3, 4, 5, 6, 7, 9]) (.seq (.region true
  [⟨some 44, .mv, [.t 3], none, []⟩, ⟨some 45, .mks 1 false [.d (.int .u8 0)] 281474976710656, [.t 44, .t 44], none, [0]⟩, ⟨some 46, .mks 1 false [.d (.int .u8 0)] 281474976710656,
  [.k (.d (.int .i64 20)), .k (.d (.int .i64 20))], none, []⟩, ⟨some 47, .call 16 true, [.k (.d (.int .u64 3)), .t 45, .t 46], none, [0, 1, 2]⟩, ⟨some 43, .mv, [.t 47], none, [0,
  1, 2, 3]⟩, ⟨some 48, .ext 0, [.t 43], none, [0, 1, 2, 3, 4]⟩, ⟨some 49, .ext 1, [.t 43], none, [0, 1, 2, 3, 4]⟩, ⟨some 10, .mv, [.t 48], none, [0, 1, 2, 3, 4, 5]⟩, ⟨some 11, .mv,
  [.t 49], none, [0, 1, 2, 3, 4, 5, 6, 7]⟩] [3, 4, 5, 6, 7, 9, 11]) (.seq (.region false [⟨some 12, .mv, [.k (.d (.int .i64 0))], none, []⟩] [3, 4, 5, 6, 7, 9, 11, 12]) (.seq
  (.region false [⟨some 13, .mv, [.k (.d (.int .i64 14))], none, []⟩] [3, 4, 5, 6, 7, 9, 11, 12, 13]) (.seq (.seq (.region false [⟨some 50, .mv, [.t 3], none, []⟩, ⟨some 51, .bin
  .gtr, [.t 50, .k (.d (.int .i64 1024))], none, []⟩] [3, 4, 5, 6, 7, 9, 11, 12, 13, 51]) (.cond (.t 51) (.region false [⟨some 12, .mv, [.k (.d (.int .i64 8))], none, []⟩, ⟨some
  13, .mv, [.k (.d (.int .i64 8))], none, []⟩] [3, 4, 5, 6, 7, 9, 11, 12, 13]) .skip)) (.seq (.region false [⟨some 53, .mv, [.t 3], none, []⟩, ⟨some 54, .bin .add, [.t 53, .k (.d
  (.int .i64 16))], none, []⟩, ⟨some 55, .mks 1 false [.d (.int .u8 0)] 281474976710656, [.t 54, .t 54], none, []⟩, ⟨some 56, .call 18 true, [.k (.d (.int .u64 3)), .k (.nil 1), .t
  55], none, []⟩, ⟨some 52, .mv, [.t 56], none, []⟩, ⟨some 57, .ext 0, [.t 52], none, []⟩, ⟨some 58, .ext 1, [.t 52], none, []⟩, ⟨some 14, .mv, [.t 57], none, []⟩, ⟨some 15, .mv,
  [.t 58], none, []⟩] [3, 4, 5, 6, 7, 9, 11, 12, 13, 15]) (.seq (.region true [⟨some 60, .mv, [.t 3], none, []⟩, ⟨some 61, .mks 1 false [.d (.int .u8 0)] 281474976710656, [.t 60,
  .t 60], none, [0]⟩, ⟨some 62, .mks 1 false [.d (.int .u8 0)] 281474976710656, [.k (.d (.int .i64 20)), .k (.d (.int .i64 20))], none, []⟩, ⟨some 63, .call 18 true, [.k (.d (.int
  .u64 3)), .t 61, .t 62], none, [0, 1, 2]⟩, ⟨some 59, .mv, [.t 63], none, [0, 1, 2, 3]⟩, ⟨some 64, .ext 0, [.t 59], none, [0, 1, 2, 3, 4]⟩, ⟨some 65, .ext 1, [.t 59], none, [0, 1,
  2, 3, 4]⟩, ⟨some 16, .mv, [.t 64], none, [0, 1, 2, 3, 4, 5]⟩, ⟨some 17, .mv, [.t 65], none, [0, 1, 2, 3, 4, 5, 6, 7]⟩] [3, 4, 5, 6, 7, 9, 11, 12, 13, 15, 17]) (.seq (.region
  false [⟨some 66, .mv, [.t 5], none, []⟩, ⟨some 67, .mv, [.t 12], none, []⟩, ⟨some 68, .bin .eql, [.t 66, .t 67], none, []⟩, ⟨some 69, .mv, [.t 68], none, []⟩, ⟨some 70, .mv, [.t
  7], some (69, true), []⟩, ⟨some 71, .mv, [.t 12], some (69, true), []⟩, ⟨some 72, .bin .eql, [.t 70, .t 71], some (69, true), []⟩, ⟨some 73, .pick, [.t 69, .t 72, .k (.d (.bool
  false))], none, []⟩, ⟨some 74, .mv, [.t 73], none, []⟩, ⟨some 75, .mv, [.t 9], some (74, true), []⟩, ⟨some 76, .mv, [.t 15], some (74, true), []⟩, ⟨some 77, .bin .eql, [.t 75, .t
  76], some (74, true), []⟩, ⟨some 78, .pick, [.t 74, .t 77, .k (.d (.bool false))], none, []⟩, ⟨some 79, .mv, [.t 78], none, []⟩, ⟨some 80, .mv, [.t 11], some (79, true), []⟩,
  ⟨some 81, .mv, [.t 17], some (79, true), []⟩, ⟨some 82, .bin .eql, [.t 80, .t 81], some (79, true), []⟩, ⟨some 83, .pick, [.t 79, .t 82, .k (.d (.bool false))], none, []⟩, ⟨some
  84, .mv, [.t 83], none, []⟩, ⟨some 85, .mv, [.t 13], some (84, true), []⟩, ⟨some 86, .bin .eql, [.t 85, .k (.d (.int .i64 14))], some (84, true), []⟩, ⟨some 87, .mv, [.t 86],
  some (84, true), []⟩, ⟨some 88, .mv, [.t 9], some (87, false), []⟩, ⟨some 89, .mv, [.t 13], some (87, false), []⟩, ⟨some 90, .bin .eql, [.t 88, .t 89], some (87, false), []⟩,
  ⟨some 91, .mv, [.t 90], some (87, false), []⟩, ⟨some 92, .mv, [.t 11], some (91, true), []⟩, ⟨some 93, .mv, [.t 13], some (91, true), []⟩, ⟨some 94, .bin .eql, [.t 92, .t 93],
  some (91, true), []⟩, ⟨some 95, .pick, [.t 91, .t 94, .k (.d (.bool false))], some (87, false), []⟩, ⟨some 96, .pick, [.t 87, .k (.d (.bool true)), .t 95], some (84, true), []⟩,
  ⟨some 97, .pick, [.t 84, .t 96, .k (.d (.bool false))], none, []⟩, ⟨some 98, .mv, [.t 97], none, []⟩, ⟨some 99, .mv, [.t 12], some (98, true), []⟩, ⟨some 100, .bin .neq, [.t 99,
  .k (.d (.int .i64 0))], some (98, true), []⟩, ⟨some 101, .mv, [.t 100], some (98, true), []⟩, ⟨some 102, .mv, [.t 4], some (101, false), []⟩, ⟨some 103, .len, [.t 102], some
  (101, false), []⟩, ⟨some 104, .bin .eql, [.t 103, .k (.d (.int .i64 21))], some (101, false), []⟩, ⟨some 105, .mv, [.t 104], some (101, false), []⟩, ⟨some 106, .mv, [.t 6], some
  (105, true), []⟩, ⟨some 107, .len, [.t 106], some (105, true), []⟩, ⟨some 108, .mv, [.t 3], some (105, true), []⟩, ⟨some 109, .bin .add, [.t 108, .k (.d (.int .i64 16))], some
  (105, true), []⟩, ⟨some 110, .bin .eql, [.t 107, .t 109], some (105, true), []⟩, ⟨some 111, .pick, [.t 105, .t 110, .k (.d (.bool false))], some (101, false), []⟩, ⟨some 112,
  .pick, [.t 101, .k (.d (.bool true)), .t 111], some (98, true), []⟩, ⟨some 113, .pick, [.t 98, .t 112, .k (.d (.bool false))], none, []⟩, ⟨some 114, .mv, [.t 113], none, []⟩,
  ⟨some 115, .call 11 false, [], some (114, true), []⟩, ⟨some 116, .pick, [.t 114, .t 115, .k (.d (.bool false))], none, []⟩, ⟨some 2, .mv, [.t 116], none, []⟩] [2])
  .ret)))))))))))
def passkeylaw6SealLimitsRr : List RR := [.t 2]
theorem passkeylaw6SealLimitsC : compFn Try.prog 8 passkeylaw6SealLimitsH = some (passkeylaw6SealLimitsRc, passkeylaw6SealLimitsRr, 117) := by kernel_rfl
theorem passkeylaw6SealLimitsOK (a0 : BitVec 8) (res : Bool) (h : passkeylaw6SealLimits a0 = some res) : CallOK Try.prog 8 [.d (eU8 a0)] [] (.d (eB res)) [] := by
  unfold passkeylaw6SealLimits at h
  refine callOK passkeylaw6SealLimitsC fm rfl ?_
  simp only [initE, initM, nbor, List.map_cons, List.map_nil, Nat.reduceAdd]
  unfold passkeylaw6SealLimitsRc
  refine rwp_seq fun K1 hK1 => ?_
  refine rwp_region fun K2 hK2 => ?_
  refine st0 128 rfl (ok (mv (.d (eB false)))) ?_
  refine hK2 _ _ ?_
  simp only [thenK, blockK, keepE, updM, List.filter_cons, List.filter_nil, List.nil_append, List.cons_append, List.map_cons, List.map_nil, envE, Mem.get, Nat.reduceEqDiff, reduceIte, Option.isNone_none, Option.isNone_some, Bool.false_eq_true, List.length_cons, List.length_nil, Nat.reduceAdd, Nat.reduceMul]
  refine hK1 _ _ _ ?_
  refine rwp_seq fun K3 hK3 => ?_
  refine rwp_region fun K4 hK4 => ?_
  refine st0 192 rfl (ok (mv (.d (eU8 a0)))) ?_
  refine st0 256 rfl (ok (rem8 _ (5#8) (by decide))) ?_
  refine st0 320 rfl (ok (toI8 _)) ?_
  refine st0 384 rfl (ok (addI (1022 : Int) _)) ?_
  refine st0 448 rfl (ok (mv (.d (eI (w64 ((1022 : Int) + ((a0 % (5#8)).toNat : Int))))))) ?_
  refine hK4 _ _ ?_
  simp only [thenK, blockK, keepE, updM, List.filter_cons, List.filter_nil, List.nil_append, List.cons_append, List.map_cons, List.map_nil, envE, Mem.get, Nat.reduceEqDiff, reduceIte, Option.isNone_none, Option.isNone_some, Bool.false_eq_true, List.length_cons, List.length_nil, Nat.reduceAdd, Nat.reduceMul]
  refine hK3 _ _ _ ?_
  refine rwp_seq fun K5 hK5 => ?_
  refine rwp_draw fun K6 hK6 => ?_
  refine dr0 512 rfl (ok (mv (.d (eI (w64 ((1022 : Int) + ((a0 % (5#8)).toNat : Int))))))) (by kernel_rfl) ?_
  obtain ⟨h7, h⟩ := asq_inv h
  refine dr1 576 rfl (mem' := [(512, .row true 1 ((List.replicate (w64 ((1022 : Int) + ((a0 % (5#8)).toNat : Int))).toNat 0#8).map eU8))]) (ok (mks1 (e := eU8) 0#8 rfl rfl h7)) rfl (by kernel_rfl) ?_
  obtain ⟨h8, h⟩ := asq_inv h
  refine dr1 640 rfl (mem' := [(576, .row true 1 ((List.replicate (5 : Int).toNat 0#8).map eU8)), (512, .row true 1 ((List.replicate (w64 ((1022 : Int) + ((a0 % (5#8)).toNat : Int))).toNat 0#8).map eU8))]) (ok (mks1 (e := eU8) 0#8 rfl rfl h8)) rfl (by kernel_rfl) ?_
  obtain ⟨y9, h10, h⟩ := bind_inv h
  refine dr1 704 rfl (mem' := [(640, .row true 1 (y9.1.map eU8)), (512, .row false 1 ((List.replicate (w64 ((1022 : Int) + ((a0 % (5#8)).toNat : Int))).toNat 0#8).map eU8)), (576, .row false 1 ((List.replicate (5 : Int).toNat 0#8).map eU8))]) (call_ok (v := .tup [.ref 640 y9.1.length 0 y9.1.length, .d (eI y9.2)]) (u := [(640, .row true 1 (y9.1.map eU8)), (512, .row false 1 ((List.replicate (w64 ((1022 : Int) + ((a0 % (5#8)).toNat : Int))).toNat 0#8).map eU8)), (576, .row false 1 ((List.replicate (5 : Int).toNat 0#8).map eU8))]) (ar_d (eU64 (3#64)) (ar_d (eU64 (4#64)) (ar_to rfl (to_1 rfl (ds_r (ys := (List.replicate (w64 ((1022 : Int) + ((a0 % (5#8)).toNat : Int))).toNat 0#8)) rfl rfl rfl ds_nil)) (ar_to rfl (to_1 rfl (ds_r (ys := (List.replicate (5 : Int).toNat 0#8)) rfl rfl rfl ds_nil)) ar_nil)))) rfl (sealSealOK (3#64) (4#64) (List.replicate (w64 ((1022 : Int) + ((a0 % (5#8)).toNat : Int))).toNat 0#8) (List.replicate (5 : Int).toNat 0#8) y9 h10) rfl) rfl (by kernel_rfl) ?_
  refine dr0 768 rfl (ok (mv (.tup [.ref 640 y9.1.length 0 y9.1.length, .d (eI y9.2)]))) (by kernel_rfl) ?_
  refine dr0 832 rfl (ok (extr (v := .ref 640 y9.1.length 0 y9.1.length) rfl rfl)) (by kernel_rfl) ?_
  refine dr0 896 rfl (ok (extr (v := .d (eI y9.2)) rfl rfl)) (by kernel_rfl) ?_
  refine dr0 960 rfl (ok (mv (.ref 640 y9.1.length 0 y9.1.length))) (by kernel_rfl) ?_
  refine dr0 1024 rfl (ok (mv (.d (eI y9.2)))) (by kernel_rfl) ?_
  refine hK6 _ _ ?_
  simp only [thenK, blockK, keepE, updM, List.filter_cons, List.filter_nil, List.nil_append, List.cons_append, List.map_cons, List.map_nil, envE, Mem.get, Nat.reduceEqDiff, reduceIte, Option.isNone_none, Option.isNone_some, Bool.false_eq_true, List.length_cons, List.length_nil, Nat.reduceAdd, Nat.reduceMul]
  refine hK5 _ _ _ ?_
  refine rwp_seq fun K11 hK11 => ?_
  refine rwp_draw fun K12 hK12 => ?_
  obtain ⟨h13, h⟩ := asq_inv h
  refine dr1 1088 rfl (mem' := [(1024, .row true 1 ((List.replicate (5 : Int).toNat 0#8).map eU8)), (640, .row true 1 (y9.1.map eU8)), (512, .row false 1 ((List.replicate (w64 ((1022 : Int) + ((a0 % (5#8)).toNat : Int))).toNat 0#8).map eU8)), (576, .row false 1 ((List.replicate (5 : Int).toNat 0#8).map eU8))]) (ok (mks1 (e := eU8) 0#8 rfl rfl h13)) rfl (by kernel_rfl) ?_
  refine dr0 1152 rfl (ok (mv (.d (eI (w64 ((1022 : Int) + ((a0 % (5#8)).toNat : Int))))))) (by kernel_rfl) ?_
  obtain ⟨h14, h⟩ := asq_inv h
  refine dr1 1216 rfl (mem' := [(1152, .row true 1 ((List.replicate (w64 ((1022 : Int) + ((a0 % (5#8)).toNat : Int))).toNat 0#8).map eU8)), (1024, .row true 1 ((List.replicate (5 : Int).toNat 0#8).map eU8)), (640, .row true 1 (y9.1.map eU8)), (512, .row false 1 ((List.replicate (w64 ((1022 : Int) + ((a0 % (5#8)).toNat : Int))).toNat 0#8).map eU8)), (576, .row false 1 ((List.replicate (5 : Int).toNat 0#8).map eU8))]) (ok (mks1 (e := eU8) 0#8 rfl rfl h14)) rfl (by kernel_rfl) ?_
  obtain ⟨y15, h16, h⟩ := bind_inv h
  refine dr1 1280 rfl (mem' := [(1216, .row true 1 (y15.1.map eU8)), (1024, .row false 1 ((List.replicate (5 : Int).toNat 0#8).map eU8)), (1152, .row false 1 ((List.replicate (w64 ((1022 : Int) + ((a0 % (5#8)).toNat : Int))).toNat 0#8).map eU8)), (640, .row true 1 (y9.1.map eU8)), (512, .row false 1 ((List.replicate (w64 ((1022 : Int) + ((a0 % (5#8)).toNat : Int))).toNat 0#8).map eU8)), (576, .row false 1 ((List.replicate (5 : Int).toNat 0#8).map eU8))]) (call_ok (v := .tup [.ref 1216 y15.1.length 0 y15.1.length, .d (eI y15.2)]) (u := [(1216, .row true 1 (y15.1.map eU8)), (1024, .row false 1 ((List.replicate (5 : Int).toNat 0#8).map eU8)), (1152, .row false 1 ((List.replicate (w64 ((1022 : Int) + ((a0 % (5#8)).toNat : Int))).toNat 0#8).map eU8))]) (ar_d (eU64 (3#64)) (ar_d (eU64 (4#64)) (ar_to rfl (to_1 rfl (ds_r (ys := (List.replicate (5 : Int).toNat 0#8)) rfl rfl rfl ds_nil)) (ar_to rfl (to_1 rfl (ds_r (ys := (List.replicate (w64 ((1022 : Int) + ((a0 % (5#8)).toNat : Int))).toNat 0#8)) rfl rfl rfl ds_nil)) ar_nil)))) rfl (sealSealOK (3#64) (4#64) (List.replicate (5 : Int).toNat 0#8) (List.replicate (w64 ((1022 : Int) + ((a0 % (5#8)).toNat : Int))).toNat 0#8) y15 h16) rfl) rfl (by kernel_rfl) ?_
  refine dr0 1344 rfl (ok (mv (.tup [.ref 1216 y15.1.length 0 y15.1.length, .d (eI y15.2)]))) (by kernel_rfl) ?_
  refine dr0 1408 rfl (ok (extr (v := .ref 1216 y15.1.length 0 y15.1.length) rfl rfl)) (by kernel_rfl) ?_
  refine dr0 1472 rfl (ok (extr (v := .d (eI y15.2)) rfl rfl)) (by kernel_rfl) ?_
  refine dr0 1536 rfl (ok (mv (.ref 1216 y15.1.length 0 y15.1.length))) (by kernel_rfl) ?_
  refine dr0 1600 rfl (ok (mv (.d (eI y15.2)))) (by kernel_rfl) ?_
  refine hK12 _ _ ?_
  simp only [thenK, blockK, keepE, updM, List.filter_cons, List.filter_nil, List.nil_append, List.cons_append, List.map_cons, List.map_nil, envE, Mem.get, Nat.reduceEqDiff, reduceIte, Option.isNone_none, Option.isNone_some, Bool.false_eq_true, List.length_cons, List.length_nil, Nat.reduceAdd, Nat.reduceMul]
  refine hK11 _ _ _ ?_
  refine rwp_seq fun K17 hK17 => ?_
  refine rwp_region fun K18 hK18 => ?_
  refine st0 1664 rfl (ok (mv (.d (eI (w64 ((1022 : Int) + ((a0 % (5#8)).toNat : Int))))))) ?_
  obtain ⟨v19, h20, h⟩ := lett_inv h
  refine st0e 1728 rfl (ok (addI _ (16 : Int))) (congrArg (fun z => PV.d (eI z)) h20) ?_
  obtain ⟨h21, h⟩ := asq_inv h
  refine st1 1792 rfl (mem' := [(1728, .row true 1 ((List.replicate v19.toNat 0#8).map eU8)), (1216, .row true 1 (y15.1.map eU8)), (1024, .row false 1 ((List.replicate (5 : Int).toNat 0#8).map eU8)), (1152, .row false 1 ((List.replicate (w64 ((1022 : Int) + ((a0 % (5#8)).toNat : Int))).toNat 0#8).map eU8)), (640, .row true 1 (y9.1.map eU8)), (512, .row false 1 ((List.replicate (w64 ((1022 : Int) + ((a0 % (5#8)).toNat : Int))).toNat 0#8).map eU8)), (576, .row false 1 ((List.replicate (5 : Int).toNat 0#8).map eU8))]) (ok (mks1 (e := eU8) 0#8 rfl rfl h21)) rfl ?_
  obtain ⟨y22, h23, h⟩ := bind_inv h
  refine st1 1856 rfl (mem' := [(1792, .row true 1 (y22.1.map eU8)), (1728, .row false 1 ((List.replicate v19.toNat 0#8).map eU8)), (1216, .row true 1 (y15.1.map eU8)), (1024, .row false 1 ((List.replicate (5 : Int).toNat 0#8).map eU8)), (1152, .row false 1 ((List.replicate (w64 ((1022 : Int) + ((a0 % (5#8)).toNat : Int))).toNat 0#8).map eU8)), (640, .row true 1 (y9.1.map eU8)), (512, .row false 1 ((List.replicate (w64 ((1022 : Int) + ((a0 % (5#8)).toNat : Int))).toNat 0#8).map eU8)), (576, .row false 1 ((List.replicate (5 : Int).toNat 0#8).map eU8))]) (call_ok (v := .tup [.ref 1792 y22.1.length 0 y22.1.length, .d (eI y22.2)]) (u := [(1792, .row true 1 (y22.1.map eU8)), (1728, .row false 1 ((List.replicate v19.toNat 0#8).map eU8))]) (ar_d (eU64 (3#64)) (ar_to rfl (to_1 rfl (ds_n eU8 ds_nil)) (ar_to rfl (to_1 rfl (ds_r (ys := (List.replicate v19.toNat 0#8)) rfl rfl rfl ds_nil)) ar_nil))) rfl (sealOpenOK (3#64) ([] : List (BitVec 8)) (List.replicate v19.toNat 0#8) y22 h23) rfl) rfl ?_
  refine st0 1920 rfl (ok (mv (.tup [.ref 1792 y22.1.length 0 y22.1.length, .d (eI y22.2)]))) ?_
  refine st0 1984 rfl (ok (extr (v := .ref 1792 y22.1.length 0 y22.1.length) rfl rfl)) ?_
  refine st0 2048 rfl (ok (extr (v := .d (eI y22.2)) rfl rfl)) ?_
  refine st0 2112 rfl (ok (mv (.ref 1792 y22.1.length 0 y22.1.length))) ?_
  refine st0 2176 rfl (ok (mv (.d (eI y22.2)))) ?_
  refine hK18 _ _ ?_
  simp only [thenK, blockK, keepE, updM, List.filter_cons, List.filter_nil, List.nil_append, List.cons_append, List.map_cons, List.map_nil, envE, Mem.get, Nat.reduceEqDiff, reduceIte, Option.isNone_none, Option.isNone_some, Bool.false_eq_true, List.length_cons, List.length_nil, Nat.reduceAdd, Nat.reduceMul]
  refine hK17 _ _ _ ?_
  refine rwp_seq fun K24 hK24 => ?_
  refine rwp_draw fun K25 hK25 => ?_
  refine dr0 2240 rfl (ok (mv (.d (eI (w64 ((1022 : Int) + ((a0 % (5#8)).toNat : Int))))))) (by kernel_rfl) ?_
  obtain ⟨h26, h⟩ := asq_inv h
  refine dr1 2304 rfl (mem' := [(2240, .row true 1 ((List.replicate (w64 ((1022 : Int) + ((a0 % (5#8)).toNat : Int))).toNat 0#8).map eU8)), (1792, .row true 1 (y22.1.map eU8)), (1728, .row false 1 ((List.replicate v19.toNat 0#8).map eU8)), (1216, .row true 1 (y15.1.map eU8)), (1024, .row false 1 ((List.replicate (5 : Int).toNat 0#8).map eU8)), (1152, .row false 1 ((List.replicate (w64 ((1022 : Int) + ((a0 % (5#8)).toNat : Int))).toNat 0#8).map eU8)), (640, .row true 1 (y9.1.map eU8)), (512, .row false 1 ((List.replicate (w64 ((1022 : Int) + ((a0 % (5#8)).toNat : Int))).toNat 0#8).map eU8)), (576, .row false 1 ((List.replicate (5 : Int).toNat 0#8).map eU8))]) (ok (mks1 (e := eU8) 0#8 rfl rfl h26)) rfl (by kernel_rfl) ?_
  obtain ⟨h27, h⟩ := asq_inv h
  refine dr1 2368 rfl (mem' := [(2304, .row true 1 ((List.replicate (20 : Int).toNat 0#8).map eU8)), (2240, .row true 1 ((List.replicate (w64 ((1022 : Int) + ((a0 % (5#8)).toNat : Int))).toNat 0#8).map eU8)), (1792, .row true 1 (y22.1.map eU8)), (1728, .row false 1 ((List.replicate v19.toNat 0#8).map eU8)), (1216, .row true 1 (y15.1.map eU8)), (1024, .row false 1 ((List.replicate (5 : Int).toNat 0#8).map eU8)), (1152, .row false 1 ((List.replicate (w64 ((1022 : Int) + ((a0 % (5#8)).toNat : Int))).toNat 0#8).map eU8)), (640, .row true 1 (y9.1.map eU8)), (512, .row false 1 ((List.replicate (w64 ((1022 : Int) + ((a0 % (5#8)).toNat : Int))).toNat 0#8).map eU8)), (576, .row false 1 ((List.replicate (5 : Int).toNat 0#8).map eU8))]) (ok (mks1 (e := eU8) 0#8 rfl rfl h27)) rfl (by kernel_rfl) ?_
  obtain ⟨y28, h29, h⟩ := bind_inv h
  refine dr1 2432 rfl (mem' := [(2368, .row true 1 (y28.1.map eU8)), (2240, .row false 1 ((List.replicate (w64 ((1022 : Int) + ((a0 % (5#8)).toNat : Int))).toNat 0#8).map eU8)), (2304, .row false 1 ((List.replicate (20 : Int).toNat 0#8).map eU8)), (1792, .row true 1 (y22.1.map eU8)), (1728, .row false 1 ((List.replicate v19.toNat 0#8).map eU8)), (1216, .row true 1 (y15.1.map eU8)), (1024, .row false 1 ((List.replicate (5 : Int).toNat 0#8).map eU8)), (1152, .row false 1 ((List.replicate (w64 ((1022 : Int) + ((a0 % (5#8)).toNat : Int))).toNat 0#8).map eU8)), (640, .row true 1 (y9.1.map eU8)), (512, .row false 1 ((List.replicate (w64 ((1022 : Int) + ((a0 % (5#8)).toNat : Int))).toNat 0#8).map eU8)), (576, .row false 1 ((List.replicate (5 : Int).toNat 0#8).map eU8))]) (call_ok (v := .tup [.ref 2368 y28.1.length 0 y28.1.length, .d (eI y28.2)]) (u := [(2368, .row true 1 (y28.1.map eU8)), (2240, .row false 1 ((List.replicate (w64 ((1022 : Int) + ((a0 % (5#8)).toNat : Int))).toNat 0#8).map eU8)), (2304, .row false 1 ((List.replicate (20 : Int).toNat 0#8).map eU8))]) (ar_d (eU64 (3#64)) (ar_to rfl (to_1 rfl (ds_r (ys := (List.replicate (w64 ((1022 : Int) + ((a0 % (5#8)).toNat : Int))).toNat 0#8)) rfl rfl rfl ds_nil)) (ar_to rfl (to_1 rfl (ds_r (ys := (List.replicate (20 : Int).toNat 0#8)) rfl rfl rfl ds_nil)) ar_nil))) rfl (sealOpenOK (3#64) (List.replicate (w64 ((1022 : Int) + ((a0 % (5#8)).toNat : Int))).toNat 0#8) (List.replicate (20 : Int).toNat 0#8) y28 h29) rfl) rfl (by kernel_rfl) ?_
  refine dr0 2496 rfl (ok (mv (.tup [.ref 2368 y28.1.length 0 y28.1.length, .d (eI y28.2)]))) (by kernel_rfl) ?_
  refine dr0 2560 rfl (ok (extr (v := .ref 2368 y28.1.length 0 y28.1.length) rfl rfl)) (by kernel_rfl) ?_
  refine dr0 2624 rfl (ok (extr (v := .d (eI y28.2)) rfl rfl)) (by kernel_rfl) ?_
  refine dr0 2688 rfl (ok (mv (.ref 2368 y28.1.length 0 y28.1.length))) (by kernel_rfl) ?_
  refine dr0 2752 rfl (ok (mv (.d (eI y28.2)))) (by kernel_rfl) ?_
  refine hK25 _ _ ?_
  simp only [thenK, blockK, keepE, updM, List.filter_cons, List.filter_nil, List.nil_append, List.cons_append, List.map_cons, List.map_nil, envE, Mem.get, Nat.reduceEqDiff, reduceIte, Option.isNone_none, Option.isNone_some, Bool.false_eq_true, List.length_cons, List.length_nil, Nat.reduceAdd, Nat.reduceMul]
  refine hK24 _ _ _ ?_
  refine rwp_seq fun K30 hK30 => ?_
  refine rwp_region fun K31 hK31 => ?_
  refine st0 2816 rfl (ok (mv (.d (eI (0 : Int))))) ?_
  refine hK31 _ _ ?_
  simp only [thenK, blockK, keepE, updM, List.filter_cons, List.filter_nil, List.nil_append, List.cons_append, List.map_cons, List.map_nil, envE, Mem.get, Nat.reduceEqDiff, reduceIte, Option.isNone_none, Option.isNone_some, Bool.false_eq_true, List.length_cons, List.length_nil, Nat.reduceAdd, Nat.reduceMul]
  refine hK30 _ _ _ ?_
  refine rwp_seq fun K32 hK32 => ?_
  refine rwp_region fun K33 hK33 => ?_
  refine st0 2880 rfl (ok (mv (.d (eI (14 : Int))))) ?_
  refine hK33 _ _ ?_
  simp only [thenK, blockK, keepE, updM, List.filter_cons, List.filter_nil, List.nil_append, List.cons_append, List.map_cons, List.map_nil, envE, Mem.get, Nat.reduceEqDiff, reduceIte, Option.isNone_none, Option.isNone_some, Bool.false_eq_true, List.length_cons, List.length_nil, Nat.reduceAdd, Nat.reduceMul]
  refine hK32 _ _ _ ?_
  refine rwp_join ([], []) 3200 (fun env mem => ∃ (v34 : Int) (v35 : Int), passkeylaw6SealLimitsJ1 a0 y9 y15 y22 y28 v34 v35 = some res ∧ env = [(3, .d (eI (w64 ((1022 : Int) + ((a0 % (5#8)).toNat : Int))))), (4, .ref 640 y9.1.length 0 y9.1.length), (5, .d (eI y9.2)), (6, .ref 1216 y15.1.length 0 y15.1.length), (7, .d (eI y15.2)), (9, .d (eI y22.2)), (11, .d (eI y28.2)), (12, .d (eI v34)), (13, .d (eI v35))] ∧ mem = [(640, .row true 1 (y9.1.map eU8)), (1216, .row true 1 (y15.1.map eU8))]) (fun _ _ hI => ?_) (fun K36 hK36 => ?_)
  · obtain ⟨v34, v35, h, rfl, rfl⟩ := hI
    unfold passkeylaw6SealLimitsJ1 at h
    refine rwp_seq fun K37 hK37 => ?_
    refine rwp_region fun K38 hK38 => ?_
    refine st0 3264 rfl (ok (mv (.d (eI (w64 ((1022 : Int) + ((a0 % (5#8)).toNat : Int))))))) ?_
    obtain ⟨v39, h40, h⟩ := lett_inv h
    refine st0e 3328 rfl (ok (addI _ (16 : Int))) (congrArg (fun z => PV.d (eI z)) h40) ?_
    obtain ⟨h41, h⟩ := asq_inv h
    refine st1 3392 rfl (mem' := [(3328, .row true 1 ((List.replicate v39.toNat 0#8).map eU8)), (640, .row true 1 (y9.1.map eU8)), (1216, .row true 1 (y15.1.map eU8))]) (ok (mks1 (e := eU8) 0#8 rfl rfl h41)) rfl ?_
    obtain ⟨y42, h43, h⟩ := bind_inv h
    refine st1 3456 rfl (mem' := [(3392, .row true 1 (y42.1.map eU8)), (3328, .row false 1 ((List.replicate v39.toNat 0#8).map eU8)), (640, .row true 1 (y9.1.map eU8)), (1216, .row true 1 (y15.1.map eU8))]) (call_ok (v := .tup [.ref 3392 y42.1.length 0 y42.1.length, .d (eI y42.2)]) (u := [(3392, .row true 1 (y42.1.map eU8)), (3328, .row false 1 ((List.replicate v39.toNat 0#8).map eU8))]) (ar_d (eU64 (3#64)) (ar_to rfl (to_1 rfl (ds_n eU8 ds_nil)) (ar_to rfl (to_1 rfl (ds_r (ys := (List.replicate v39.toNat 0#8)) rfl rfl rfl ds_nil)) ar_nil))) rfl (passkeyref3OpenOK (3#64) ([] : List (BitVec 8)) (List.replicate v39.toNat 0#8) y42 h43) rfl) rfl ?_
    refine st0 3520 rfl (ok (mv (.tup [.ref 3392 y42.1.length 0 y42.1.length, .d (eI y42.2)]))) ?_
    refine st0 3584 rfl (ok (extr (v := .ref 3392 y42.1.length 0 y42.1.length) rfl rfl)) ?_
    refine st0 3648 rfl (ok (extr (v := .d (eI y42.2)) rfl rfl)) ?_
    refine st0 3712 rfl (ok (mv (.ref 3392 y42.1.length 0 y42.1.length))) ?_
    refine st0 3776 rfl (ok (mv (.d (eI y42.2)))) ?_
    refine hK38 _ _ ?_
    simp only [thenK, blockK, keepE, updM, List.filter_cons, List.filter_nil, List.nil_append, List.cons_append, List.map_cons, List.map_nil, envE, Mem.get, Nat.reduceEqDiff, reduceIte, Option.isNone_none, Option.isNone_some, Bool.false_eq_true, List.length_cons, List.length_nil, Nat.reduceAdd, Nat.reduceMul]
    refine hK37 _ _ _ ?_
    refine rwp_seq fun K44 hK44 => ?_
    refine rwp_draw fun K45 hK45 => ?_
    refine dr0 3840 rfl (ok (mv (.d (eI (w64 ((1022 : Int) + ((a0 % (5#8)).toNat : Int))))))) (by kernel_rfl) ?_
    obtain ⟨h46, h⟩ := asq_inv h
    refine dr1 3904 rfl (mem' := [(3840, .row true 1 ((List.replicate (w64 ((1022 : Int) + ((a0 % (5#8)).toNat : Int))).toNat 0#8).map eU8)), (3392, .row true 1 (y42.1.map eU8)), (3328, .row false 1 ((List.replicate v39.toNat 0#8).map eU8)), (640, .row true 1 (y9.1.map eU8)), (1216, .row true 1 (y15.1.map eU8))]) (ok (mks1 (e := eU8) 0#8 rfl rfl h46)) rfl (by kernel_rfl) ?_
    obtain ⟨h47, h⟩ := asq_inv h
    refine dr1 3968 rfl (mem' := [(3904, .row true 1 ((List.replicate (20 : Int).toNat 0#8).map eU8)), (3840, .row true 1 ((List.replicate (w64 ((1022 : Int) + ((a0 % (5#8)).toNat : Int))).toNat 0#8).map eU8)), (3392, .row true 1 (y42.1.map eU8)), (3328, .row false 1 ((List.replicate v39.toNat 0#8).map eU8)), (640, .row true 1 (y9.1.map eU8)), (1216, .row true 1 (y15.1.map eU8))]) (ok (mks1 (e := eU8) 0#8 rfl rfl h47)) rfl (by kernel_rfl) ?_
    obtain ⟨y48, h49, h⟩ := bind_inv h
    refine dr1 4032 rfl (mem' := [(3968, .row true 1 (y48.1.map eU8)), (3840, .row false 1 ((List.replicate (w64 ((1022 : Int) + ((a0 % (5#8)).toNat : Int))).toNat 0#8).map eU8)), (3904, .row false 1 ((List.replicate (20 : Int).toNat 0#8).map eU8)), (3392, .row true 1 (y42.1.map eU8)), (3328, .row false 1 ((List.replicate v39.toNat 0#8).map eU8)), (640, .row true 1 (y9.1.map eU8)), (1216, .row true 1 (y15.1.map eU8))]) (call_ok (v := .tup [.ref 3968 y48.1.length 0 y48.1.length, .d (eI y48.2)]) (u := [(3968, .row true 1 (y48.1.map eU8)), (3840, .row false 1 ((List.replicate (w64 ((1022 : Int) + ((a0 % (5#8)).toNat : Int))).toNat 0#8).map eU8)), (3904, .row false 1 ((List.replicate (20 : Int).toNat 0#8).map eU8))]) (ar_d (eU64 (3#64)) (ar_to rfl (to_1 rfl (ds_r (ys := (List.replicate (w64 ((1022 : Int) + ((a0 % (5#8)).toNat : Int))).toNat 0#8)) rfl rfl rfl ds_nil)) (ar_to rfl (to_1 rfl (ds_r (ys := (List.replicate (20 : Int).toNat 0#8)) rfl rfl rfl ds_nil)) ar_nil))) rfl (passkeyref3OpenOK (3#64) (List.replicate (w64 ((1022 : Int) + ((a0 % (5#8)).toNat : Int))).toNat 0#8) (List.replicate (20 : Int).toNat 0#8) y48 h49) rfl) rfl (by kernel_rfl) ?_
    refine dr0 4096 rfl (ok (mv (.tup [.ref 3968 y48.1.length 0 y48.1.length, .d (eI y48.2)]))) (by kernel_rfl) ?_
    refine dr0 4160 rfl (ok (extr (v := .ref 3968 y48.1.length 0 y48.1.length) rfl rfl)) (by kernel_rfl) ?_
    refine dr0 4224 rfl (ok (extr (v := .d (eI y48.2)) rfl rfl)) (by kernel_rfl) ?_
    refine dr0 4288 rfl (ok (mv (.ref 3968 y48.1.length 0 y48.1.length))) (by kernel_rfl) ?_
    refine dr0 4352 rfl (ok (mv (.d (eI y48.2)))) (by kernel_rfl) ?_
    refine hK45 _ _ ?_
    simp only [thenK, blockK, keepE, updM, List.filter_cons, List.filter_nil, List.nil_append, List.cons_append, List.map_cons, List.map_nil, envE, Mem.get, Nat.reduceEqDiff, reduceIte, Option.isNone_none, Option.isNone_some, Bool.false_eq_true, List.length_cons, List.length_nil, Nat.reduceAdd, Nat.reduceMul]
    refine hK44 _ _ _ ?_
    refine rwp_seq fun K50 hK50 => ?_
    refine rwp_region fun K51 hK51 => ?_
    refine st0 4416 rfl (ok (mv (.d (eI y9.2)))) ?_
    refine st0 4480 rfl (ok (mv (.d (eI v34)))) ?_
    refine st0 4544 rfl (ok (eqlI _ _)) ?_
    refine st0 4608 rfl (ok (mv (.d (eB (y9.2 == v34))))) ?_
    rcases Bool.eq_false_or_eq_true ((y9.2 == v34)) with h52 | h52
    · replace h := ite_t h h52
      refine stG (isT h52) ?_
      refine st0 4672 rfl (ok (mv (.d (eI y15.2)))) ?_
      refine stG (isT h52) ?_
      refine st0 4736 rfl (ok (mv (.d (eI v34)))) ?_
      refine stG (isT h52) ?_
      refine st0 4800 rfl (ok (eqlI _ _)) ?_
      refine st0 4864 rfl (ok (pick_t h52 (.d (eB (y15.2 == v34))) _)) ?_
      refine st0 4928 rfl (ok (mv (.d (eB (y15.2 == v34))))) ?_
      rcases Bool.eq_false_or_eq_true ((y15.2 == v34)) with h53 | h53
      · replace h := ite_t h h53
        refine stG (isT h53) ?_
        refine st0 4992 rfl (ok (mv (.d (eI y22.2)))) ?_
        refine stG (isT h53) ?_
        refine st0 5056 rfl (ok (mv (.d (eI y42.2)))) ?_
        refine stG (isT h53) ?_
        refine st0 5120 rfl (ok (eqlI _ _)) ?_
        refine st0 5184 rfl (ok (pick_t h53 (.d (eB (y22.2 == y42.2))) _)) ?_
        refine st0 5248 rfl (ok (mv (.d (eB (y22.2 == y42.2))))) ?_
        rcases Bool.eq_false_or_eq_true ((y22.2 == y42.2)) with h54 | h54
        · replace h := ite_t h h54
          refine stG (isT h54) ?_
          refine st0 5312 rfl (ok (mv (.d (eI y28.2)))) ?_
          refine stG (isT h54) ?_
          refine st0 5376 rfl (ok (mv (.d (eI y48.2)))) ?_
          refine stG (isT h54) ?_
          refine st0 5440 rfl (ok (eqlI _ _)) ?_
          refine st0 5504 rfl (ok (pick_t h54 (.d (eB (y28.2 == y48.2))) _)) ?_
          refine st0 5568 rfl (ok (mv (.d (eB (y28.2 == y48.2))))) ?_
          rcases Bool.eq_false_or_eq_true ((y28.2 == y48.2)) with h55 | h55
          · replace h := ite_t h h55
            refine stG (isT h55) ?_
            refine st0 5632 rfl (ok (mv (.d (eI v35)))) ?_
            refine stG (isT h55) ?_
            refine st0 5696 rfl (ok (eqlI _ (14 : Int))) ?_
            refine stG (isT h55) ?_
            refine st0 5760 rfl (ok (mv (.d (eB (v35 == (14 : Int)))))) ?_
            rcases Bool.eq_false_or_eq_true ((v35 == (14 : Int))) with h56 | h56
            · replace h := ite_t h h56
              refine stGN 5824 rfl rfl h56 ?_
              refine stGN 5888 rfl rfl h56 ?_
              refine stGN 5952 rfl rfl h56 ?_
              refine stGN 6016 rfl rfl h56 ?_
              refine stGS 6080 rfl rfl ?_
              refine stGS 6144 rfl rfl ?_
              refine stGS 6208 rfl rfl ?_
              refine stGN 6272 rfl rfl h56 ?_
              refine stG (isT h55) ?_
              refine st0 6336 rfl (ok (pick_t h56 (.d (eB true)) _)) ?_
              refine st0 6400 rfl (ok (pick_t h55 (.d (eB true)) _)) ?_
              refine st0 6464 rfl (ok (mv (.d (eB true)))) ?_
              refine stG rfl ?_
              refine st0 6528 rfl (ok (mv (.d (eI v34)))) ?_
              refine stG rfl ?_
              refine st0 6592 rfl (ok (neqI _ (0 : Int))) ?_
              refine stG rfl ?_
              refine st0 6656 rfl (ok (mv (.d (eB (v34 != (0 : Int)))))) ?_
              rcases Bool.eq_false_or_eq_true ((v34 != (0 : Int))) with h57 | h57
              · replace h := ite_t h h57
                refine stGN 6720 rfl rfl h57 ?_
                refine stGN 6784 rfl rfl h57 ?_
                refine stGN 6848 rfl rfl h57 ?_
                refine stGN 6912 rfl rfl h57 ?_
                refine stGS 6976 rfl rfl ?_
                refine stGS 7040 rfl rfl ?_
                refine stGS 7104 rfl rfl ?_
                refine stGS 7168 rfl rfl ?_
                refine stGS 7232 rfl rfl ?_
                refine stGN 7296 rfl rfl h57 ?_
                refine stG rfl ?_
                refine st0 7360 rfl (ok (pick_t h57 (.d (eB true)) _)) ?_
                refine st0 7424 rfl (ok (pick_t rfl (.d (eB true)) _)) ?_
                refine st0 7488 rfl (ok (mv (.d (eB true)))) ?_
                refine stG rfl ?_
                obtain ⟨y58, h59, h⟩ := bind_inv h
                refine st0 7552 rfl (call_ok (v := .d (eB y58)) (u := []) ar_nil rfl (passkeylaw6awakeOK  y58 h59) rfl) ?_
                refine st0 7616 rfl (ok (pick_t rfl (.d (eB y58)) _)) ?_
                refine st0 7680 rfl (ok (mv (.d (eB y58)))) ?_
                refine hK51 _ _ ?_
                simp only [thenK, blockK, keepE, updM, List.filter_cons, List.filter_nil, List.nil_append, List.cons_append, List.map_cons, List.map_nil, envE, Mem.get, Nat.reduceEqDiff, reduceIte, Option.isNone_none, Option.isNone_some, Bool.false_eq_true, List.length_cons, List.length_nil, Nat.reduceAdd, Nat.reduceMul]
                refine hK50 _ _ _ ?_
                refine rwp_ret ?_
                obtain rfl := Option.some.inj h
                try simp only [thenK, blockK, reduceIte]
                exact Or.inl (end_ok trivial (rs_t (v := .d (eB y58)) rfl rs_nil) (en_d (to_d _) en_nil) ou_nil (by first | exact eok rfl rfl rfl rfl trivial | (refine eok ?_ ?_ ?_ ?_ ?_ <;> first | rfl | exact trivial | simp [retM, Mem.get, PV.renL, PV.ren, Blk.ren, comps, rhoR, rhoM, appN, PV.refsL, PV.refs, keys, nodupB, Blk.refs, allIn, Blk.bor])))
              · replace h := ite_f h h57
                refine stG (isF h57) ?_
                refine st0 6720 rfl (ok (mv (.ref 640 y9.1.length 0 y9.1.length))) ?_
                refine stG (isF h57) ?_
                refine st0 6784 rfl (ok (lenR _ _ _ _)) ?_
                refine stG (isF h57) ?_
                refine st0 6848 rfl (ok (eqlI _ (21 : Int))) ?_
                refine stG (isF h57) ?_
                refine st0 6912 rfl (ok (mv (.d (eB ((y9.1.length : Int) == (21 : Int)))))) ?_
                rcases Bool.eq_false_or_eq_true (((y9.1.length : Int) == (21 : Int))) with h60 | h60
                · replace h := ite_t h h60
                  refine stG (isT h60) ?_
                  refine st0 6976 rfl (ok (mv (.ref 1216 y15.1.length 0 y15.1.length))) ?_
                  refine stG (isT h60) ?_
                  refine st0 7040 rfl (ok (lenR _ _ _ _)) ?_
                  refine stG (isT h60) ?_
                  refine st0 7104 rfl (ok (mv (.d (eI (w64 ((1022 : Int) + ((a0 % (5#8)).toNat : Int))))))) ?_
                  refine stG (isT h60) ?_
                  obtain ⟨v61, h62, h⟩ := lett_inv h
                  refine st0e 7168 rfl (ok (addI _ (16 : Int))) (congrArg (fun z => PV.d (eI z)) h62) ?_
                  refine stG (isT h60) ?_
                  refine st0 7232 rfl (ok (eqlI _ _)) ?_
                  refine stG (isF h57) ?_
                  refine st0 7296 rfl (ok (pick_t h60 (.d (eB ((y15.1.length : Int) == v61))) _)) ?_
                  refine stG rfl ?_
                  refine st0 7360 rfl (ok (pick_f h57 _ (.d (eB ((y15.1.length : Int) == v61))))) ?_
                  refine st0 7424 rfl (ok (pick_t rfl (.d (eB ((y15.1.length : Int) == v61))) _)) ?_
                  refine st0 7488 rfl (ok (mv (.d (eB ((y15.1.length : Int) == v61))))) ?_
                  rcases Bool.eq_false_or_eq_true (((y15.1.length : Int) == v61)) with h63 | h63
                  · replace h := ite_t h h63
                    refine stG (isT h63) ?_
                    obtain ⟨y64, h65, h⟩ := bind_inv h
                    refine st0 7552 rfl (call_ok (v := .d (eB y64)) (u := []) ar_nil rfl (passkeylaw6awakeOK  y64 h65) rfl) ?_
                    refine st0 7616 rfl (ok (pick_t h63 (.d (eB y64)) _)) ?_
                    refine st0 7680 rfl (ok (mv (.d (eB y64)))) ?_
                    refine hK51 _ _ ?_
                    simp only [thenK, blockK, keepE, updM, List.filter_cons, List.filter_nil, List.nil_append, List.cons_append, List.map_cons, List.map_nil, envE, Mem.get, Nat.reduceEqDiff, reduceIte, Option.isNone_none, Option.isNone_some, Bool.false_eq_true, List.length_cons, List.length_nil, Nat.reduceAdd, Nat.reduceMul]
                    refine hK50 _ _ _ ?_
                    refine rwp_ret ?_
                    obtain rfl := Option.some.inj h
                    try simp only [thenK, blockK, reduceIte]
                    exact Or.inl (end_ok trivial (rs_t (v := .d (eB y64)) rfl rs_nil) (en_d (to_d _) en_nil) ou_nil (by first | exact eok rfl rfl rfl rfl trivial | (refine eok ?_ ?_ ?_ ?_ ?_ <;> first | rfl | exact trivial | simp [retM, Mem.get, PV.renL, PV.ren, Blk.ren, comps, rhoR, rhoM, appN, PV.refsL, PV.refs, keys, nodupB, Blk.refs, allIn, Blk.bor])))
                  · replace h := ite_f h h63
                    refine stGN 7552 rfl rfl h63 ?_
                    refine st0 7616 rfl (ok (pick_f h63 _ (.d (eB false)))) ?_
                    refine st0 7680 rfl (ok (mv (.d (eB false)))) ?_
                    refine hK51 _ _ ?_
                    simp only [thenK, blockK, keepE, updM, List.filter_cons, List.filter_nil, List.nil_append, List.cons_append, List.map_cons, List.map_nil, envE, Mem.get, Nat.reduceEqDiff, reduceIte, Option.isNone_none, Option.isNone_some, Bool.false_eq_true, List.length_cons, List.length_nil, Nat.reduceAdd, Nat.reduceMul]
                    refine hK50 _ _ _ ?_
                    refine rwp_ret ?_
                    obtain rfl := Option.some.inj h
                    try simp only [thenK, blockK, reduceIte]
                    exact Or.inl (end_ok trivial (rs_t (v := .d (eB false)) rfl rs_nil) (en_d (to_d _) en_nil) ou_nil (by first | exact eok rfl rfl rfl rfl trivial | (refine eok ?_ ?_ ?_ ?_ ?_ <;> first | rfl | exact trivial | simp [retM, Mem.get, PV.renL, PV.ren, Blk.ren, comps, rhoR, rhoM, appN, PV.refsL, PV.refs, keys, nodupB, Blk.refs, allIn, Blk.bor])))
                · replace h := ite_f h h60
                  refine stGN 6976 rfl rfl h60 ?_
                  refine stGN 7040 rfl rfl h60 ?_
                  refine stGN 7104 rfl rfl h60 ?_
                  refine stGN 7168 rfl rfl h60 ?_
                  refine stGN 7232 rfl rfl h60 ?_
                  refine stG (isF h57) ?_
                  refine st0 7296 rfl (ok (pick_f h60 _ (.d (eB false)))) ?_
                  refine stG rfl ?_
                  refine st0 7360 rfl (ok (pick_f h57 _ (.d (eB false)))) ?_
                  refine st0 7424 rfl (ok (pick_t rfl (.d (eB false)) _)) ?_
                  refine st0 7488 rfl (ok (mv (.d (eB false)))) ?_
                  refine stGN 7552 rfl rfl rfl ?_
                  refine st0 7616 rfl (ok (pick_f rfl _ (.d (eB false)))) ?_
                  refine st0 7680 rfl (ok (mv (.d (eB false)))) ?_
                  refine hK51 _ _ ?_
                  simp only [thenK, blockK, keepE, updM, List.filter_cons, List.filter_nil, List.nil_append, List.cons_append, List.map_cons, List.map_nil, envE, Mem.get, Nat.reduceEqDiff, reduceIte, Option.isNone_none, Option.isNone_some, Bool.false_eq_true, List.length_cons, List.length_nil, Nat.reduceAdd, Nat.reduceMul]
                  refine hK50 _ _ _ ?_
                  refine rwp_ret ?_
                  obtain rfl := Option.some.inj h
                  try simp only [thenK, blockK, reduceIte]
                  exact Or.inl (end_ok trivial (rs_t (v := .d (eB false)) rfl rs_nil) (en_d (to_d _) en_nil) ou_nil (by first | exact eok rfl rfl rfl rfl trivial | (refine eok ?_ ?_ ?_ ?_ ?_ <;> first | rfl | exact trivial | simp [retM, Mem.get, PV.renL, PV.ren, Blk.ren, comps, rhoR, rhoM, appN, PV.refsL, PV.refs, keys, nodupB, Blk.refs, allIn, Blk.bor])))
            · replace h := ite_f h h56
              refine stG (isF h56) ?_
              refine st0 5824 rfl (ok (mv (.d (eI y22.2)))) ?_
              refine stG (isF h56) ?_
              refine st0 5888 rfl (ok (mv (.d (eI v35)))) ?_
              refine stG (isF h56) ?_
              refine st0 5952 rfl (ok (eqlI _ _)) ?_
              refine stG (isF h56) ?_
              refine st0 6016 rfl (ok (mv (.d (eB (y22.2 == v35))))) ?_
              rcases Bool.eq_false_or_eq_true ((y22.2 == v35)) with h66 | h66
              · replace h := ite_t h h66
                refine stG (isT h66) ?_
                refine st0 6080 rfl (ok (mv (.d (eI y28.2)))) ?_
                refine stG (isT h66) ?_
                refine st0 6144 rfl (ok (mv (.d (eI v35)))) ?_
                refine stG (isT h66) ?_
                refine st0 6208 rfl (ok (eqlI _ _)) ?_
                refine stG (isF h56) ?_
                refine st0 6272 rfl (ok (pick_t h66 (.d (eB (y28.2 == v35))) _)) ?_
                refine stG (isT h55) ?_
                refine st0 6336 rfl (ok (pick_f h56 _ (.d (eB (y28.2 == v35))))) ?_
                refine st0 6400 rfl (ok (pick_t h55 (.d (eB (y28.2 == v35))) _)) ?_
                refine st0 6464 rfl (ok (mv (.d (eB (y28.2 == v35))))) ?_
                rcases Bool.eq_false_or_eq_true ((y28.2 == v35)) with h67 | h67
                · replace h := ite_t h h67
                  refine stG (isT h67) ?_
                  refine st0 6528 rfl (ok (mv (.d (eI v34)))) ?_
                  refine stG (isT h67) ?_
                  refine st0 6592 rfl (ok (neqI _ (0 : Int))) ?_
                  refine stG (isT h67) ?_
                  refine st0 6656 rfl (ok (mv (.d (eB (v34 != (0 : Int)))))) ?_
                  rcases Bool.eq_false_or_eq_true ((v34 != (0 : Int))) with h68 | h68
                  · replace h := ite_t h h68
                    refine stGN 6720 rfl rfl h68 ?_
                    refine stGN 6784 rfl rfl h68 ?_
                    refine stGN 6848 rfl rfl h68 ?_
                    refine stGN 6912 rfl rfl h68 ?_
                    refine stGS 6976 rfl rfl ?_
                    refine stGS 7040 rfl rfl ?_
                    refine stGS 7104 rfl rfl ?_
                    refine stGS 7168 rfl rfl ?_
                    refine stGS 7232 rfl rfl ?_
                    refine stGN 7296 rfl rfl h68 ?_
                    refine stG (isT h67) ?_
                    refine st0 7360 rfl (ok (pick_t h68 (.d (eB true)) _)) ?_
                    refine st0 7424 rfl (ok (pick_t h67 (.d (eB true)) _)) ?_
                    refine st0 7488 rfl (ok (mv (.d (eB true)))) ?_
                    refine stG rfl ?_
                    obtain ⟨y69, h70, h⟩ := bind_inv h
                    refine st0 7552 rfl (call_ok (v := .d (eB y69)) (u := []) ar_nil rfl (passkeylaw6awakeOK  y69 h70) rfl) ?_
                    refine st0 7616 rfl (ok (pick_t rfl (.d (eB y69)) _)) ?_
                    refine st0 7680 rfl (ok (mv (.d (eB y69)))) ?_
                    refine hK51 _ _ ?_
                    simp only [thenK, blockK, keepE, updM, List.filter_cons, List.filter_nil, List.nil_append, List.cons_append, List.map_cons, List.map_nil, envE, Mem.get, Nat.reduceEqDiff, reduceIte, Option.isNone_none, Option.isNone_some, Bool.false_eq_true, List.length_cons, List.length_nil, Nat.reduceAdd, Nat.reduceMul]
                    refine hK50 _ _ _ ?_
                    refine rwp_ret ?_
                    obtain rfl := Option.some.inj h
                    try simp only [thenK, blockK, reduceIte]
                    exact Or.inl (end_ok trivial (rs_t (v := .d (eB y69)) rfl rs_nil) (en_d (to_d _) en_nil) ou_nil (by first | exact eok rfl rfl rfl rfl trivial | (refine eok ?_ ?_ ?_ ?_ ?_ <;> first | rfl | exact trivial | simp [retM, Mem.get, PV.renL, PV.ren, Blk.ren, comps, rhoR, rhoM, appN, PV.refsL, PV.refs, keys, nodupB, Blk.refs, allIn, Blk.bor])))
                  · replace h := ite_f h h68
                    refine stG (isF h68) ?_
                    refine st0 6720 rfl (ok (mv (.ref 640 y9.1.length 0 y9.1.length))) ?_
                    refine stG (isF h68) ?_
                    refine st0 6784 rfl (ok (lenR _ _ _ _)) ?_
                    refine stG (isF h68) ?_
                    refine st0 6848 rfl (ok (eqlI _ (21 : Int))) ?_
                    refine stG (isF h68) ?_
                    refine st0 6912 rfl (ok (mv (.d (eB ((y9.1.length : Int) == (21 : Int)))))) ?_
                    rcases Bool.eq_false_or_eq_true (((y9.1.length : Int) == (21 : Int))) with h71 | h71
                    · replace h := ite_t h h71
                      refine stG (isT h71) ?_
                      refine st0 6976 rfl (ok (mv (.ref 1216 y15.1.length 0 y15.1.length))) ?_
                      refine stG (isT h71) ?_
                      refine st0 7040 rfl (ok (lenR _ _ _ _)) ?_
                      refine stG (isT h71) ?_
                      refine st0 7104 rfl (ok (mv (.d (eI (w64 ((1022 : Int) + ((a0 % (5#8)).toNat : Int))))))) ?_
                      refine stG (isT h71) ?_
                      obtain ⟨v72, h73, h⟩ := lett_inv h
                      refine st0e 7168 rfl (ok (addI _ (16 : Int))) (congrArg (fun z => PV.d (eI z)) h73) ?_
                      refine stG (isT h71) ?_
                      refine st0 7232 rfl (ok (eqlI _ _)) ?_
                      refine stG (isF h68) ?_
                      refine st0 7296 rfl (ok (pick_t h71 (.d (eB ((y15.1.length : Int) == v72))) _)) ?_
                      refine stG (isT h67) ?_
                      refine st0 7360 rfl (ok (pick_f h68 _ (.d (eB ((y15.1.length : Int) == v72))))) ?_
                      refine st0 7424 rfl (ok (pick_t h67 (.d (eB ((y15.1.length : Int) == v72))) _)) ?_
                      refine st0 7488 rfl (ok (mv (.d (eB ((y15.1.length : Int) == v72))))) ?_
                      rcases Bool.eq_false_or_eq_true (((y15.1.length : Int) == v72)) with h74 | h74
                      · replace h := ite_t h h74
                        refine stG (isT h74) ?_
                        obtain ⟨y75, h76, h⟩ := bind_inv h
                        refine st0 7552 rfl (call_ok (v := .d (eB y75)) (u := []) ar_nil rfl (passkeylaw6awakeOK  y75 h76) rfl) ?_
                        refine st0 7616 rfl (ok (pick_t h74 (.d (eB y75)) _)) ?_
                        refine st0 7680 rfl (ok (mv (.d (eB y75)))) ?_
                        refine hK51 _ _ ?_
                        simp only [thenK, blockK, keepE, updM, List.filter_cons, List.filter_nil, List.nil_append, List.cons_append, List.map_cons, List.map_nil, envE, Mem.get, Nat.reduceEqDiff, reduceIte, Option.isNone_none, Option.isNone_some, Bool.false_eq_true, List.length_cons, List.length_nil, Nat.reduceAdd, Nat.reduceMul]
                        refine hK50 _ _ _ ?_
                        refine rwp_ret ?_
                        obtain rfl := Option.some.inj h
                        try simp only [thenK, blockK, reduceIte]
                        exact Or.inl (end_ok trivial (rs_t (v := .d (eB y75)) rfl rs_nil) (en_d (to_d _) en_nil) ou_nil (by first | exact eok rfl rfl rfl rfl trivial | (refine eok ?_ ?_ ?_ ?_ ?_ <;> first | rfl | exact trivial | simp [retM, Mem.get, PV.renL, PV.ren, Blk.ren, comps, rhoR, rhoM, appN, PV.refsL, PV.refs, keys, nodupB, Blk.refs, allIn, Blk.bor])))
                      · replace h := ite_f h h74
                        refine stGN 7552 rfl rfl h74 ?_
                        refine st0 7616 rfl (ok (pick_f h74 _ (.d (eB false)))) ?_
                        refine st0 7680 rfl (ok (mv (.d (eB false)))) ?_
                        refine hK51 _ _ ?_
                        simp only [thenK, blockK, keepE, updM, List.filter_cons, List.filter_nil, List.nil_append, List.cons_append, List.map_cons, List.map_nil, envE, Mem.get, Nat.reduceEqDiff, reduceIte, Option.isNone_none, Option.isNone_some, Bool.false_eq_true, List.length_cons, List.length_nil, Nat.reduceAdd, Nat.reduceMul]
                        refine hK50 _ _ _ ?_
                        refine rwp_ret ?_
                        obtain rfl := Option.some.inj h
                        try simp only [thenK, blockK, reduceIte]
                        exact Or.inl (end_ok trivial (rs_t (v := .d (eB false)) rfl rs_nil) (en_d (to_d _) en_nil) ou_nil (by first | exact eok rfl rfl rfl rfl trivial | (refine eok ?_ ?_ ?_ ?_ ?_ <;> first | rfl | exact trivial | simp [retM, Mem.get, PV.renL, PV.ren, Blk.ren, comps, rhoR, rhoM, appN, PV.refsL, PV.refs, keys, nodupB, Blk.refs, allIn, Blk.bor])))
                    · replace h := ite_f h h71
                      refine stGN 6976 rfl rfl h71 ?_
                      refine stGN 7040 rfl rfl h71 ?_
                      refine stGN 7104 rfl rfl h71 ?_
                      refine stGN 7168 rfl rfl h71 ?_
                      refine stGN 7232 rfl rfl h71 ?_
                      refine stG (isF h68) ?_
                      refine st0 7296 rfl (ok (pick_f h71 _ (.d (eB false)))) ?_
                      refine stG (isT h67) ?_
                      refine st0 7360 rfl (ok (pick_f h68 _ (.d (eB false)))) ?_
                      refine st0 7424 rfl (ok (pick_t h67 (.d (eB false)) _)) ?_
                      refine st0 7488 rfl (ok (mv (.d (eB false)))) ?_
                      refine stGN 7552 rfl rfl rfl ?_
                      refine st0 7616 rfl (ok (pick_f rfl _ (.d (eB false)))) ?_
                      refine st0 7680 rfl (ok (mv (.d (eB false)))) ?_
                      refine hK51 _ _ ?_
                      simp only [thenK, blockK, keepE, updM, List.filter_cons, List.filter_nil, List.nil_append, List.cons_append, List.map_cons, List.map_nil, envE, Mem.get, Nat.reduceEqDiff, reduceIte, Option.isNone_none, Option.isNone_some, Bool.false_eq_true, List.length_cons, List.length_nil, Nat.reduceAdd, Nat.reduceMul]
                      refine hK50 _ _ _ ?_
                      refine rwp_ret ?_
                      obtain rfl := Option.some.inj h
                      try simp only [thenK, blockK, reduceIte]
                      exact Or.inl (end_ok trivial (rs_t (v := .d (eB false)) rfl rs_nil) (en_d (to_d _) en_nil) ou_nil (by first | exact eok rfl rfl rfl rfl trivial | (refine eok ?_ ?_ ?_ ?_ ?_ <;> first | rfl | exact trivial | simp [retM, Mem.get, PV.renL, PV.ren, Blk.ren, comps, rhoR, rhoM, appN, PV.refsL, PV.refs, keys, nodupB, Blk.refs, allIn, Blk.bor])))
                · replace h := ite_f h h67
                  refine stGN 6528 rfl rfl h67 ?_
                  refine stGN 6592 rfl rfl h67 ?_
                  refine stGN 6656 rfl rfl h67 ?_
                  refine stGS 6720 rfl rfl ?_
                  refine stGS 6784 rfl rfl ?_
                  refine stGS 6848 rfl rfl ?_
                  refine stGS 6912 rfl rfl ?_
                  refine stGS 6976 rfl rfl ?_
                  refine stGS 7040 rfl rfl ?_
                  refine stGS 7104 rfl rfl ?_
                  refine stGS 7168 rfl rfl ?_
                  refine stGS 7232 rfl rfl ?_
                  refine stGS 7296 rfl rfl ?_
                  refine stGN 7360 rfl rfl h67 ?_
                  refine st0 7424 rfl (ok (pick_f h67 _ (.d (eB false)))) ?_
                  refine st0 7488 rfl (ok (mv (.d (eB false)))) ?_
                  refine stGN 7552 rfl rfl rfl ?_
                  refine st0 7616 rfl (ok (pick_f rfl _ (.d (eB false)))) ?_
                  refine st0 7680 rfl (ok (mv (.d (eB false)))) ?_
                  refine hK51 _ _ ?_
                  simp only [thenK, blockK, keepE, updM, List.filter_cons, List.filter_nil, List.nil_append, List.cons_append, List.map_cons, List.map_nil, envE, Mem.get, Nat.reduceEqDiff, reduceIte, Option.isNone_none, Option.isNone_some, Bool.false_eq_true, List.length_cons, List.length_nil, Nat.reduceAdd, Nat.reduceMul]
                  refine hK50 _ _ _ ?_
                  refine rwp_ret ?_
                  obtain rfl := Option.some.inj h
                  try simp only [thenK, blockK, reduceIte]
                  exact Or.inl (end_ok trivial (rs_t (v := .d (eB false)) rfl rs_nil) (en_d (to_d _) en_nil) ou_nil (by first | exact eok rfl rfl rfl rfl trivial | (refine eok ?_ ?_ ?_ ?_ ?_ <;> first | rfl | exact trivial | simp [retM, Mem.get, PV.renL, PV.ren, Blk.ren, comps, rhoR, rhoM, appN, PV.refsL, PV.refs, keys, nodupB, Blk.refs, allIn, Blk.bor])))
              · replace h := ite_f h h66
                refine stGN 6080 rfl rfl h66 ?_
                refine stGN 6144 rfl rfl h66 ?_
                refine stGN 6208 rfl rfl h66 ?_
                refine stG (isF h56) ?_
                refine st0 6272 rfl (ok (pick_f h66 _ (.d (eB false)))) ?_
                refine stG (isT h55) ?_
                refine st0 6336 rfl (ok (pick_f h56 _ (.d (eB false)))) ?_
                refine st0 6400 rfl (ok (pick_t h55 (.d (eB false)) _)) ?_
                refine st0 6464 rfl (ok (mv (.d (eB false)))) ?_
                refine stGN 6528 rfl rfl rfl ?_
                refine stGN 6592 rfl rfl rfl ?_
                refine stGN 6656 rfl rfl rfl ?_
                refine stGS 6720 rfl rfl ?_
                refine stGS 6784 rfl rfl ?_
                refine stGS 6848 rfl rfl ?_
                refine stGS 6912 rfl rfl ?_
                refine stGS 6976 rfl rfl ?_
                refine stGS 7040 rfl rfl ?_
                refine stGS 7104 rfl rfl ?_
                refine stGS 7168 rfl rfl ?_
                refine stGS 7232 rfl rfl ?_
                refine stGS 7296 rfl rfl ?_
                refine stGN 7360 rfl rfl rfl ?_
                refine st0 7424 rfl (ok (pick_f rfl _ (.d (eB false)))) ?_
                refine st0 7488 rfl (ok (mv (.d (eB false)))) ?_
                refine stGN 7552 rfl rfl rfl ?_
                refine st0 7616 rfl (ok (pick_f rfl _ (.d (eB false)))) ?_
                refine st0 7680 rfl (ok (mv (.d (eB false)))) ?_
                refine hK51 _ _ ?_
                simp only [thenK, blockK, keepE, updM, List.filter_cons, List.filter_nil, List.nil_append, List.cons_append, List.map_cons, List.map_nil, envE, Mem.get, Nat.reduceEqDiff, reduceIte, Option.isNone_none, Option.isNone_some, Bool.false_eq_true, List.length_cons, List.length_nil, Nat.reduceAdd, Nat.reduceMul]
                refine hK50 _ _ _ ?_
                refine rwp_ret ?_
                obtain rfl := Option.some.inj h
                try simp only [thenK, blockK, reduceIte]
                exact Or.inl (end_ok trivial (rs_t (v := .d (eB false)) rfl rs_nil) (en_d (to_d _) en_nil) ou_nil (by first | exact eok rfl rfl rfl rfl trivial | (refine eok ?_ ?_ ?_ ?_ ?_ <;> first | rfl | exact trivial | simp [retM, Mem.get, PV.renL, PV.ren, Blk.ren, comps, rhoR, rhoM, appN, PV.refsL, PV.refs, keys, nodupB, Blk.refs, allIn, Blk.bor])))
          · replace h := ite_f h h55
            refine stGN 5632 rfl rfl h55 ?_
            refine stGN 5696 rfl rfl h55 ?_
            refine stGN 5760 rfl rfl h55 ?_
            refine stGS 5824 rfl rfl ?_
            refine stGS 5888 rfl rfl ?_
            refine stGS 5952 rfl rfl ?_
            refine stGS 6016 rfl rfl ?_
            refine stGS 6080 rfl rfl ?_
            refine stGS 6144 rfl rfl ?_
            refine stGS 6208 rfl rfl ?_
            refine stGS 6272 rfl rfl ?_
            refine stGN 6336 rfl rfl h55 ?_
            refine st0 6400 rfl (ok (pick_f h55 _ (.d (eB false)))) ?_
            refine st0 6464 rfl (ok (mv (.d (eB false)))) ?_
            refine stGN 6528 rfl rfl rfl ?_
            refine stGN 6592 rfl rfl rfl ?_
            refine stGN 6656 rfl rfl rfl ?_
            refine stGS 6720 rfl rfl ?_
            refine stGS 6784 rfl rfl ?_
            refine stGS 6848 rfl rfl ?_
            refine stGS 6912 rfl rfl ?_
            refine stGS 6976 rfl rfl ?_
            refine stGS 7040 rfl rfl ?_
            refine stGS 7104 rfl rfl ?_
            refine stGS 7168 rfl rfl ?_
            refine stGS 7232 rfl rfl ?_
            refine stGS 7296 rfl rfl ?_
            refine stGN 7360 rfl rfl rfl ?_
            refine st0 7424 rfl (ok (pick_f rfl _ (.d (eB false)))) ?_
            refine st0 7488 rfl (ok (mv (.d (eB false)))) ?_
            refine stGN 7552 rfl rfl rfl ?_
            refine st0 7616 rfl (ok (pick_f rfl _ (.d (eB false)))) ?_
            refine st0 7680 rfl (ok (mv (.d (eB false)))) ?_
            refine hK51 _ _ ?_
            simp only [thenK, blockK, keepE, updM, List.filter_cons, List.filter_nil, List.nil_append, List.cons_append, List.map_cons, List.map_nil, envE, Mem.get, Nat.reduceEqDiff, reduceIte, Option.isNone_none, Option.isNone_some, Bool.false_eq_true, List.length_cons, List.length_nil, Nat.reduceAdd, Nat.reduceMul]
            refine hK50 _ _ _ ?_
            refine rwp_ret ?_
            obtain rfl := Option.some.inj h
            try simp only [thenK, blockK, reduceIte]
            exact Or.inl (end_ok trivial (rs_t (v := .d (eB false)) rfl rs_nil) (en_d (to_d _) en_nil) ou_nil (by first | exact eok rfl rfl rfl rfl trivial | (refine eok ?_ ?_ ?_ ?_ ?_ <;> first | rfl | exact trivial | simp [retM, Mem.get, PV.renL, PV.ren, Blk.ren, comps, rhoR, rhoM, appN, PV.refsL, PV.refs, keys, nodupB, Blk.refs, allIn, Blk.bor])))
        · replace h := ite_f h h54
          refine stGN 5312 rfl rfl h54 ?_
          refine stGN 5376 rfl rfl h54 ?_
          refine stGN 5440 rfl rfl h54 ?_
          refine st0 5504 rfl (ok (pick_f h54 _ (.d (eB false)))) ?_
          refine st0 5568 rfl (ok (mv (.d (eB false)))) ?_
          refine stGN 5632 rfl rfl rfl ?_
          refine stGN 5696 rfl rfl rfl ?_
          refine stGN 5760 rfl rfl rfl ?_
          refine stGS 5824 rfl rfl ?_
          refine stGS 5888 rfl rfl ?_
          refine stGS 5952 rfl rfl ?_
          refine stGS 6016 rfl rfl ?_
          refine stGS 6080 rfl rfl ?_
          refine stGS 6144 rfl rfl ?_
          refine stGS 6208 rfl rfl ?_
          refine stGS 6272 rfl rfl ?_
          refine stGN 6336 rfl rfl rfl ?_
          refine st0 6400 rfl (ok (pick_f rfl _ (.d (eB false)))) ?_
          refine st0 6464 rfl (ok (mv (.d (eB false)))) ?_
          refine stGN 6528 rfl rfl rfl ?_
          refine stGN 6592 rfl rfl rfl ?_
          refine stGN 6656 rfl rfl rfl ?_
          refine stGS 6720 rfl rfl ?_
          refine stGS 6784 rfl rfl ?_
          refine stGS 6848 rfl rfl ?_
          refine stGS 6912 rfl rfl ?_
          refine stGS 6976 rfl rfl ?_
          refine stGS 7040 rfl rfl ?_
          refine stGS 7104 rfl rfl ?_
          refine stGS 7168 rfl rfl ?_
          refine stGS 7232 rfl rfl ?_
          refine stGS 7296 rfl rfl ?_
          refine stGN 7360 rfl rfl rfl ?_
          refine st0 7424 rfl (ok (pick_f rfl _ (.d (eB false)))) ?_
          refine st0 7488 rfl (ok (mv (.d (eB false)))) ?_
          refine stGN 7552 rfl rfl rfl ?_
          refine st0 7616 rfl (ok (pick_f rfl _ (.d (eB false)))) ?_
          refine st0 7680 rfl (ok (mv (.d (eB false)))) ?_
          refine hK51 _ _ ?_
          simp only [thenK, blockK, keepE, updM, List.filter_cons, List.filter_nil, List.nil_append, List.cons_append, List.map_cons, List.map_nil, envE, Mem.get, Nat.reduceEqDiff, reduceIte, Option.isNone_none, Option.isNone_some, Bool.false_eq_true, List.length_cons, List.length_nil, Nat.reduceAdd, Nat.reduceMul]
          refine hK50 _ _ _ ?_
          refine rwp_ret ?_
          obtain rfl := Option.some.inj h
          try simp only [thenK, blockK, reduceIte]
          exact Or.inl (end_ok trivial (rs_t (v := .d (eB false)) rfl rs_nil) (en_d (to_d _) en_nil) ou_nil (by first | exact eok rfl rfl rfl rfl trivial | (refine eok ?_ ?_ ?_ ?_ ?_ <;> first | rfl | exact trivial | simp [retM, Mem.get, PV.renL, PV.ren, Blk.ren, comps, rhoR, rhoM, appN, PV.refsL, PV.refs, keys, nodupB, Blk.refs, allIn, Blk.bor])))
      · replace h := ite_f h h53
        refine stGN 4992 rfl rfl h53 ?_
        refine stGN 5056 rfl rfl h53 ?_
        refine stGN 5120 rfl rfl h53 ?_
        refine st0 5184 rfl (ok (pick_f h53 _ (.d (eB false)))) ?_
        refine st0 5248 rfl (ok (mv (.d (eB false)))) ?_
        refine stGN 5312 rfl rfl rfl ?_
        refine stGN 5376 rfl rfl rfl ?_
        refine stGN 5440 rfl rfl rfl ?_
        refine st0 5504 rfl (ok (pick_f rfl _ (.d (eB false)))) ?_
        refine st0 5568 rfl (ok (mv (.d (eB false)))) ?_
        refine stGN 5632 rfl rfl rfl ?_
        refine stGN 5696 rfl rfl rfl ?_
        refine stGN 5760 rfl rfl rfl ?_
        refine stGS 5824 rfl rfl ?_
        refine stGS 5888 rfl rfl ?_
        refine stGS 5952 rfl rfl ?_
        refine stGS 6016 rfl rfl ?_
        refine stGS 6080 rfl rfl ?_
        refine stGS 6144 rfl rfl ?_
        refine stGS 6208 rfl rfl ?_
        refine stGS 6272 rfl rfl ?_
        refine stGN 6336 rfl rfl rfl ?_
        refine st0 6400 rfl (ok (pick_f rfl _ (.d (eB false)))) ?_
        refine st0 6464 rfl (ok (mv (.d (eB false)))) ?_
        refine stGN 6528 rfl rfl rfl ?_
        refine stGN 6592 rfl rfl rfl ?_
        refine stGN 6656 rfl rfl rfl ?_
        refine stGS 6720 rfl rfl ?_
        refine stGS 6784 rfl rfl ?_
        refine stGS 6848 rfl rfl ?_
        refine stGS 6912 rfl rfl ?_
        refine stGS 6976 rfl rfl ?_
        refine stGS 7040 rfl rfl ?_
        refine stGS 7104 rfl rfl ?_
        refine stGS 7168 rfl rfl ?_
        refine stGS 7232 rfl rfl ?_
        refine stGS 7296 rfl rfl ?_
        refine stGN 7360 rfl rfl rfl ?_
        refine st0 7424 rfl (ok (pick_f rfl _ (.d (eB false)))) ?_
        refine st0 7488 rfl (ok (mv (.d (eB false)))) ?_
        refine stGN 7552 rfl rfl rfl ?_
        refine st0 7616 rfl (ok (pick_f rfl _ (.d (eB false)))) ?_
        refine st0 7680 rfl (ok (mv (.d (eB false)))) ?_
        refine hK51 _ _ ?_
        simp only [thenK, blockK, keepE, updM, List.filter_cons, List.filter_nil, List.nil_append, List.cons_append, List.map_cons, List.map_nil, envE, Mem.get, Nat.reduceEqDiff, reduceIte, Option.isNone_none, Option.isNone_some, Bool.false_eq_true, List.length_cons, List.length_nil, Nat.reduceAdd, Nat.reduceMul]
        refine hK50 _ _ _ ?_
        refine rwp_ret ?_
        obtain rfl := Option.some.inj h
        try simp only [thenK, blockK, reduceIte]
        exact Or.inl (end_ok trivial (rs_t (v := .d (eB false)) rfl rs_nil) (en_d (to_d _) en_nil) ou_nil (by first | exact eok rfl rfl rfl rfl trivial | (refine eok ?_ ?_ ?_ ?_ ?_ <;> first | rfl | exact trivial | simp [retM, Mem.get, PV.renL, PV.ren, Blk.ren, comps, rhoR, rhoM, appN, PV.refsL, PV.refs, keys, nodupB, Blk.refs, allIn, Blk.bor])))
    · replace h := ite_f h h52
      refine stGN 4672 rfl rfl h52 ?_
      refine stGN 4736 rfl rfl h52 ?_
      refine stGN 4800 rfl rfl h52 ?_
      refine st0 4864 rfl (ok (pick_f h52 _ (.d (eB false)))) ?_
      refine st0 4928 rfl (ok (mv (.d (eB false)))) ?_
      refine stGN 4992 rfl rfl rfl ?_
      refine stGN 5056 rfl rfl rfl ?_
      refine stGN 5120 rfl rfl rfl ?_
      refine st0 5184 rfl (ok (pick_f rfl _ (.d (eB false)))) ?_
      refine st0 5248 rfl (ok (mv (.d (eB false)))) ?_
      refine stGN 5312 rfl rfl rfl ?_
      refine stGN 5376 rfl rfl rfl ?_
      refine stGN 5440 rfl rfl rfl ?_
      refine st0 5504 rfl (ok (pick_f rfl _ (.d (eB false)))) ?_
      refine st0 5568 rfl (ok (mv (.d (eB false)))) ?_
      refine stGN 5632 rfl rfl rfl ?_
      refine stGN 5696 rfl rfl rfl ?_
      refine stGN 5760 rfl rfl rfl ?_
      refine stGS 5824 rfl rfl ?_
      refine stGS 5888 rfl rfl ?_
      refine stGS 5952 rfl rfl ?_
      refine stGS 6016 rfl rfl ?_
      refine stGS 6080 rfl rfl ?_
      refine stGS 6144 rfl rfl ?_
      refine stGS 6208 rfl rfl ?_
      refine stGS 6272 rfl rfl ?_
      refine stGN 6336 rfl rfl rfl ?_
      refine st0 6400 rfl (ok (pick_f rfl _ (.d (eB false)))) ?_
      refine st0 6464 rfl (ok (mv (.d (eB false)))) ?_
      refine stGN 6528 rfl rfl rfl ?_
      refine stGN 6592 rfl rfl rfl ?_
      refine stGN 6656 rfl rfl rfl ?_
      refine stGS 6720 rfl rfl ?_
      refine stGS 6784 rfl rfl ?_
      refine stGS 6848 rfl rfl ?_
      refine stGS 6912 rfl rfl ?_
      refine stGS 6976 rfl rfl ?_
      refine stGS 7040 rfl rfl ?_
      refine stGS 7104 rfl rfl ?_
      refine stGS 7168 rfl rfl ?_
      refine stGS 7232 rfl rfl ?_
      refine stGS 7296 rfl rfl ?_
      refine stGN 7360 rfl rfl rfl ?_
      refine st0 7424 rfl (ok (pick_f rfl _ (.d (eB false)))) ?_
      refine st0 7488 rfl (ok (mv (.d (eB false)))) ?_
      refine stGN 7552 rfl rfl rfl ?_
      refine st0 7616 rfl (ok (pick_f rfl _ (.d (eB false)))) ?_
      refine st0 7680 rfl (ok (mv (.d (eB false)))) ?_
      refine hK51 _ _ ?_
      simp only [thenK, blockK, keepE, updM, List.filter_cons, List.filter_nil, List.nil_append, List.cons_append, List.map_cons, List.map_nil, envE, Mem.get, Nat.reduceEqDiff, reduceIte, Option.isNone_none, Option.isNone_some, Bool.false_eq_true, List.length_cons, List.length_nil, Nat.reduceAdd, Nat.reduceMul]
      refine hK50 _ _ _ ?_
      refine rwp_ret ?_
      obtain rfl := Option.some.inj h
      try simp only [thenK, blockK, reduceIte]
      exact Or.inl (end_ok trivial (rs_t (v := .d (eB false)) rfl rs_nil) (en_d (to_d _) en_nil) ou_nil (by first | exact eok rfl rfl rfl rfl trivial | (refine eok ?_ ?_ ?_ ?_ ?_ <;> first | rfl | exact trivial | simp [retM, Mem.get, PV.renL, PV.ren, Blk.ren, comps, rhoR, rhoM, appN, PV.refsL, PV.refs, keys, nodupB, Blk.refs, allIn, Blk.bor])))
  · refine rwp_seq fun K77 hK77 => ?_
    refine rwp_region fun K78 hK78 => ?_
    refine st0 2944 rfl (ok (mv (.d (eI (w64 ((1022 : Int) + ((a0 % (5#8)).toNat : Int))))))) ?_
    refine st0 3008 rfl (ok (gtrI _ (1024 : Int))) ?_
    refine hK78 _ _ ?_
    simp only [thenK, blockK, keepE, updM, List.filter_cons, List.filter_nil, List.nil_append, List.cons_append, List.map_cons, List.map_nil, envE, Mem.get, Nat.reduceEqDiff, reduceIte, Option.isNone_none, Option.isNone_some, Bool.false_eq_true, List.length_cons, List.length_nil, Nat.reduceAdd, Nat.reduceMul]
    refine hK77 _ _ _ ?_
    rcases Bool.eq_false_or_eq_true ((decide ((1024 : Int) < (w64 ((1022 : Int) + ((a0 % (5#8)).toNat : Int)))))) with h79 | h79
    · replace h := ite_t h h79
      refine rwp_t (isT h79) ?_
      refine rwp_region fun K80 hK80 => ?_
      refine st0 3072 rfl (ok (mv (.d (eI (8 : Int))))) ?_
      refine st0 3136 rfl (ok (mv (.d (eI (8 : Int))))) ?_
      refine hK80 _ _ ?_
      simp only [thenK, blockK, keepE, updM, List.filter_cons, List.filter_nil, List.nil_append, List.cons_append, List.map_cons, List.map_nil, envE, Mem.get, Nat.reduceEqDiff, reduceIte, Option.isNone_none, Option.isNone_some, Bool.false_eq_true, List.length_cons, List.length_nil, Nat.reduceAdd, Nat.reduceMul]
      exact hK36 _ _ _ ⟨_, _, Settled.refl, _, _, ⟨_, _, h, rfl, rfl⟩, ⟨rfl, ⟨⟨rfl, rfl⟩, ⟨⟨rfl, rfl⟩, ⟨⟨rfl, rfl⟩, ⟨⟨rfl, rfl⟩, ⟨⟨rfl, rfl⟩, ⟨⟨rfl, rfl⟩, ⟨⟨rfl, rfl⟩, ⟨⟨rfl, rfl⟩, ⟨⟨rfl, rfl⟩, trivial⟩⟩⟩⟩⟩⟩⟩⟩⟩, ⟨⟨rfl, rfl⟩, ⟨⟨rfl, rfl⟩, trivial⟩⟩⟩, rfl⟩
    · replace h := ite_f h h79
      refine rwp_f (isF h79) ?_
      refine rwp_skip ?_
      exact hK36 _ _ _ ⟨_, _, Settled.refl, _, _, ⟨_, _, h, rfl, rfl⟩, ⟨rfl, ⟨⟨rfl, rfl⟩, ⟨⟨rfl, rfl⟩, ⟨⟨rfl, rfl⟩, ⟨⟨rfl, rfl⟩, ⟨⟨rfl, rfl⟩, ⟨⟨rfl, rfl⟩, ⟨⟨rfl, rfl⟩, ⟨⟨rfl, rfl⟩, ⟨⟨rfl, rfl⟩, trivial⟩⟩⟩⟩⟩⟩⟩⟩⟩, ⟨⟨rfl, rfl⟩, ⟨⟨rfl, rfl⟩, trivial⟩⟩⟩, rfl⟩

end Go.Proofs.Ty
