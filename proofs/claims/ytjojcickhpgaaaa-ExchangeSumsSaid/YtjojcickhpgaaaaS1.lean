/- Each Go function comes to what its plain function says. PRINTED by a program of this session (ty.py). -/
import Derived.Test.YtjojcickhpgaaaaS0
set_option linter.unusedVariables false
set_option linter.unusedSimpArgs false
set_option maxHeartbeats 4000000
set_option maxRecDepth 10000
namespace Go.Proofs.Ty
open Go Go.RW Go.Proofs
/-- math/bits.Div64 -/
def bitsDiv64H : Hints := ⟨[(0, [0, 1, 2]), (1, [0, 1, 2, 20]), (2, [0, 1, 2]), (3, [0, 1, 2, 24]), (4, [0, 1, 2]), (5, [0, 1, 2, 27]), (6, [6, 7]), (7, [0, 1, 2, 8]), (8, [0, 1, 2, 8]), (9, [0, 1, 2, 8, 9]), (10, [0, 1, 2, 8, 9, 10]), (11, [1, 2, 8, 9, 10, 11]), (12, [2, 8, 9, 10, 11, 12]), (13, [2, 8, 9, 10, 11, 12, 13]), (14, [2, 8, 9, 10, 11, 13, 14]), (15, [2, 8, 9, 10, 11, 13, 14, 15]), (16, [2, 8, 9, 10, 11, 13, 14, 15, 16]), (17, [2, 8, 9, 10, 11, 13, 14, 15, 16, 78]), (18, [2, 8, 9, 10, 11, 13, 14, 15, 16]), (19, [2, 8, 9, 10, 11, 13, 14, 15, 16]), (20, [2, 8, 9, 10, 11, 13, 14, 15, 16, 85]), (21, [2, 8, 9, 10, 14, 15, 17]), (22, [2, 8, 9, 10, 14, 15, 17, 18]), (23, [2, 8, 9, 10, 14, 15, 16, 17, 18]), (24, [2, 8, 9, 10, 14, 15, 16, 17, 18, 113]), (25, [2, 8, 9, 10, 14, 15, 16, 17, 18]), (26, [2, 8, 9, 10, 14, 15, 16, 17, 18]), (27, [2, 8, 9, 10, 14, 15, 16, 17, 18, 120]), (28, [6, 7])], []⟩
def bitsDiv64Rc : RCode :=
  .seq (.region false [⟨some 6, .mv, [.k (.d (.int .u64 0))], none, []⟩, ⟨some 7, .mv, [.k (.d (.int .u64 0))], none, []⟩] [0, 1, 2]) (.seq (.seq (.region false [⟨some 19, .mv, [.t
  2], none, []⟩, ⟨some 20, .bin .eql, [.t 19, .k (.d (.int .u64 0))], none, []⟩] [0, 1, 2, 20]) (.cond (.t 20) (.region false [⟨some 21, .bad, [], none, []⟩, ⟨none, .bad, [], none,
  []⟩] [0, 1, 2]) .skip)) (.seq (.seq (.region false [⟨some 22, .mv, [.t 2], none, []⟩, ⟨some 23, .mv, [.t 0], none, []⟩, ⟨some 24, .bin .leq, [.t 22, .t 23], none, []⟩] [0, 1, 2,
  24]) (.cond (.t 24) (.region false [⟨some 25, .bad, [], none, []⟩, ⟨none, .bad, [], none, []⟩] [0, 1, 2]) .skip)) (.seq (.seq (.region false [⟨some 26, .mv, [.t 0], none, []⟩,
  ⟨some 27, .bin .eql, [.t 26, .k (.d (.int .u64 0))], none, []⟩] [0, 1, 2, 27]) (.cond (.t 27) (.seq (.region true [⟨some 28, .mv, [.t 1], none, []⟩, ⟨some 29, .mv, [.t 2], none,
  []⟩, ⟨some 30, .bin .quo, [.t 28, .t 29], none, [0, 1]⟩, ⟨some 31, .mv, [.t 1], none, []⟩, ⟨some 32, .mv, [.t 2], none, []⟩, ⟨some 33, .bin .rem, [.t 31, .t 32], none, [3, 4]⟩,
  ⟨some 6, .mv, [.t 30], none, [0, 1, 2]⟩, ⟨some 7, .mv, [.t 33], none, [0, 1, 2, 3, 4, 5, 6]⟩] [6, 7]) .ret) .skip)) (.seq (.region false [⟨some 34, .mv, [.t 2], none, []⟩, ⟨some
  35, .call 29 false, [.t 34], none, []⟩, ⟨some 36, .cvt .u64, [.t 35], none, []⟩, ⟨some 8, .mv, [.t 36], none, []⟩] [0, 1, 2, 8]) (.seq (.region false [⟨some 37, .mv, [.t 2],
  none, []⟩, ⟨some 38, .mv, [.t 8], none, []⟩, ⟨some 39, .bin .shl, [.t 37, .t 38], none, []⟩, ⟨some 2, .mv, [.t 39], none, []⟩] [0, 1, 2, 8]) (.seq (.region false [⟨some 40, .mv,
  [.t 2], none, []⟩, ⟨some 41, .bin .shr, [.t 40, .k (.d (.int .u64 32))], none, []⟩, ⟨some 9, .mv, [.t 41], none, []⟩] [0, 1, 2, 8, 9]) (.seq (.region false [⟨some 42, .mv, [.t
  2], none, []⟩, ⟨some 43, .bin .and, [.t 42, .k (.d (.int .u64 4294967295))], none, []⟩, ⟨some 10, .mv, [.t 43], none, []⟩] [0, 1, 2, 8, 9, 10]) (.seq (.region false [⟨some 44,
  .mv, [.t 0], none, []⟩, ⟨some 45, .mv, [.t 8], none, []⟩, ⟨some 46, .bin .shl, [.t 44, .t 45], none, []⟩, ⟨some 47, .mv, [.t 1], none, []⟩, ⟨some 48, .mv, [.t 8], none, []⟩,
  ⟨some 49, .bin .sub, [.k (.d (.int .u64 64)), .t 48], none, []⟩, ⟨some 50, .bin .shr, [.t 47, .t 49], none, []⟩, ⟨some 51, .bin .or, [.t 46, .t 50], none, []⟩, ⟨some 11, .mv, [.t
  51], none, []⟩] [1, 2, 8, 9, 10, 11]) (.seq (.region false [⟨some 52, .mv, [.t 1], none, []⟩, ⟨some 53, .mv, [.t 8], none, []⟩, ⟨some 54, .bin .shl, [.t 52, .t 53], none, []⟩,
  ⟨some 12, .mv, [.t 54], none, []⟩] [2, 8, 9, 10, 11, 12]) (.seq (.region false [⟨some 55, .mv, [.t 12], none, []⟩, ⟨some 56, .bin .shr, [.t 55, .k (.d (.int .u64 32))], none,
  []⟩, ⟨some 13, .mv, [.t 56], none, []⟩] [2, 8, 9, 10, 11, 12, 13]) (.seq (.region false [⟨some 57, .mv, [.t 12], none, []⟩, ⟨some 58, .bin .and, [.t 57, .k (.d (.int .u64
  4294967295))], none, []⟩, ⟨some 14, .mv, [.t 58], none, []⟩] [2, 8, 9, 10, 11, 13, 14]) (.seq (.region false [⟨some 59, .mv, [.t 11], none, []⟩, ⟨some 60, .mv, [.t 9], none, []⟩,
  ⟨some 61, .bin .quo, [.t 59, .t 60], none, []⟩, ⟨some 15, .mv, [.t 61], none, []⟩] [2, 8, 9, 10, 11, 13, 14, 15]) (.seq (.region false [⟨some 62, .mv, [.t 11], none, []⟩, ⟨some
  63, .mv, [.t 15], none, []⟩, ⟨some 64, .mv, [.t 9], none, []⟩, ⟨some 65, .bin .mul, [.t 63, .t 64], none, []⟩, ⟨some 66, .bin .sub, [.t 62, .t 65], none, []⟩, ⟨some 16, .mv, [.t
  66], none, []⟩] [2, 8, 9, 10, 11, 13, 14, 15, 16]) (.seq (.block 0 (.loop [] (.seq (.seq (.region false [⟨some 67, .mv, [.t 15], none, []⟩, ⟨some 68, .bin .geq, [.t 67, .k (.d
  (.int .u64 4294967296))], none, []⟩, ⟨some 69, .mv, [.t 68], none, []⟩, ⟨some 70, .mv, [.t 15], some (69, false), []⟩, ⟨some 71, .mv, [.t 10], some (69, false), []⟩, ⟨some 72,
  .bin .mul, [.t 70, .t 71], some (69, false), []⟩, ⟨some 73, .mv, [.t 16], some (69, false), []⟩, ⟨some 74, .bin .mul, [.k (.d (.int .u64 4294967296)), .t 73], some (69, false),
  []⟩, ⟨some 75, .mv, [.t 13], some (69, false), []⟩, ⟨some 76, .bin .add, [.t 74, .t 75], some (69, false), []⟩, ⟨some 77, .bin .gtr, [.t 72, .t 76], some (69, false), []⟩, ⟨some
  78, .pick, [.t 69, .k (.d (.bool true)), .t 77], none, []⟩] [2, 8, 9, 10, 11, 13, 14, 15, 16, 78]) (.cond (.t 78) .skip (.exit 0))) (.block 1 (.seq (.region false [⟨some 79, .mv,
  [.t 15], none, []⟩, ⟨some 80, .bin .sub, [.t 79, .k (.d (.int .u64 1))], none, []⟩, ⟨some 15, .mv, [.t 80], none, []⟩] [2, 8, 9, 10, 11, 13, 14, 15, 16]) (.seq (.region false
  [⟨some 81, .mv, [.t 16], none, []⟩, ⟨some 82, .mv, [.t 9], none, []⟩, ⟨some 83, .bin .add, [.t 81, .t 82], none, []⟩, ⟨some 16, .mv, [.t 83], none, []⟩] [2, 8, 9, 10, 11, 13, 14,
  15, 16]) (.seq (.region false [⟨some 84, .mv, [.t 16], none, []⟩, ⟨some 85, .bin .geq, [.t 84, .k (.d (.int .u64 4294967296))], none, []⟩] [2, 8, 9, 10, 11, 13, 14, 15, 16, 85])
  (.cond (.t 85) (.exit 0) .skip)))))))) (.seq (.region false [⟨some 86, .mv, [.t 11], none, []⟩, ⟨some 87, .bin .mul, [.t 86, .k (.d (.int .u64 4294967296))], none, []⟩, ⟨some 88,
  .mv, [.t 13], none, []⟩, ⟨some 89, .bin .add, [.t 87, .t 88], none, []⟩, ⟨some 90, .mv, [.t 15], none, []⟩, ⟨some 91, .mv, [.t 2], none, []⟩, ⟨some 92, .bin .mul, [.t 90, .t 91],
  none, []⟩, ⟨some 93, .bin .sub, [.t 89, .t 92], none, []⟩, ⟨some 17, .mv, [.t 93], none, []⟩] [2, 8, 9, 10, 14, 15, 17]) (.seq (.region false [⟨some 94, .mv, [.t 17], none, []⟩,
  ⟨some 95, .mv, [.t 9], none, []⟩, ⟨some 96, .bin .quo, [.t 94, .t 95], none, []⟩, ⟨some 18, .mv, [.t 96], none, []⟩] [2, 8, 9, 10, 14, 15, 17, 18]) (.seq (.region false [⟨some
  97, .mv, [.t 17], none, []⟩, ⟨some 98, .mv, [.t 18], none, []⟩, ⟨some 99, .mv, [.t 9], none, []⟩, ⟨some 100, .bin .mul, [.t 98, .t 99], none, []⟩, ⟨some 101, .bin .sub, [.t 97,
  .t 100], none, []⟩, ⟨some 16, .mv, [.t 101], none, []⟩] [2, 8, 9, 10, 14, 15, 16, 17, 18]) (.seq (.block 2 (.loop [] (.seq (.seq (.region false [⟨some 102, .mv, [.t 18], none,
  []⟩, ⟨some 103, .bin .geq, [.t 102, .k (.d (.int .u64 4294967296))], none, []⟩, ⟨some 104, .mv, [.t 103], none, []⟩, ⟨some 105, .mv, [.t 18], some (104, false), []⟩, ⟨some 106,
  .mv, [.t 10], some (104, false), []⟩, ⟨some 107, .bin .mul, [.t 105, .t 106], some (104, false), []⟩, ⟨some 108, .mv, [.t 16], some (104, false), []⟩, ⟨some 109, .bin .mul, [.k
  (.d (.int .u64 4294967296)), .t 108], some (104, false), []⟩, ⟨some 110, .mv, [.t 14], some (104, false), []⟩, ⟨some 111, .bin .add, [.t 109, .t 110], some (104, false), []⟩,
  ⟨some 112, .bin .gtr, [.t 107, .t 111], some (104, false), []⟩, ⟨some 113, .pick, [.t 104, .k (.d (.bool true)), .t 112], none, []⟩] [2, 8, 9, 10, 14, 15, 16, 17, 18, 113])
  (.cond (.t 113) .skip (.exit 2))) (.block 3 (.seq (.region false [⟨some 114, .mv, [.t 18], none, []⟩, ⟨some 115, .bin .sub, [.t 114, .k (.d (.int .u64 1))], none, []⟩, ⟨some 18,
  .mv, [.t 115], none, []⟩] [2, 8, 9, 10, 14, 15, 16, 17, 18]) (.seq (.region false [⟨some 116, .mv, [.t 16], none, []⟩, ⟨some 117, .mv, [.t 9], none, []⟩, ⟨some 118, .bin .add,
  [.t 116, .t 117], none, []⟩, ⟨some 16, .mv, [.t 118], none, []⟩] [2, 8, 9, 10, 14, 15, 16, 17, 18]) (.seq (.region false [⟨some 119, .mv, [.t 16], none, []⟩, ⟨some 120, .bin
  .geq, [.t 119, .k (.d (.int .u64 4294967296))], none, []⟩] [2, 8, 9, 10, 14, 15, 16, 17, 18, 120]) (.cond (.t 120) (.exit 2) .skip)))))))) (.seq (.region false [⟨some 121, .mv,
  [.t 15], none, []⟩, ⟨some 122, .bin .mul, [.t 121, .k (.d (.int .u64 4294967296))], none, []⟩, ⟨some 123, .mv, [.t 18], none, []⟩, ⟨some 124, .bin .add, [.t 122, .t 123], none,
  []⟩, ⟨some 125, .mv, [.t 17], none, []⟩, ⟨some 126, .bin .mul, [.t 125, .k (.d (.int .u64 4294967296))], none, []⟩, ⟨some 127, .mv, [.t 14], none, []⟩, ⟨some 128, .bin .add, [.t
  126, .t 127], none, []⟩, ⟨some 129, .mv, [.t 18], none, []⟩, ⟨some 130, .mv, [.t 2], none, []⟩, ⟨some 131, .bin .mul, [.t 129, .t 130], none, []⟩, ⟨some 132, .bin .sub, [.t 128,
  .t 131], none, []⟩, ⟨some 133, .mv, [.t 8], none, []⟩, ⟨some 134, .bin .shr, [.t 132, .t 133], none, []⟩, ⟨some 6, .mv, [.t 124], none, []⟩, ⟨some 7, .mv, [.t 134], none, []⟩]
  [6, 7]) .ret)))))))))))))))))))
def bitsDiv64Rr : List RR := [.t 6, .t 7]
theorem bitsDiv64C : compFn Try.prog 26 bitsDiv64H = some (bitsDiv64Rc, bitsDiv64Rr, 135) := by kernel_rfl
theorem bitsDiv64OK (a0 : BitVec 64) (a1 : BitVec 64) (a2 : BitVec 64) (res : (BitVec 64) × (BitVec 64)) (h : bitsDiv64 a0 a1 a2 = some res) : CallOK Try.prog 26 [.d (eU64 a0), .d (eU64 a1), .d (eU64 a2)] [] (.tup [.d (eU64 res.1), .d (eU64 res.2)]) [] := by
  unfold bitsDiv64 at h
  refine callOK bitsDiv64C fm rfl ?_
  simp only [initE, initM, nbor, List.map_cons, List.map_nil, Nat.reduceAdd]
  unfold bitsDiv64Rc
  refine rwp_seq fun K1 hK1 => ?_
  refine rwp_region fun K2 hK2 => ?_
  refine st0 128 rfl (ok (mv (.d (eU64 (0#64))))) ?_
  refine st0 192 rfl (ok (mv (.d (eU64 (0#64))))) ?_
  refine hK2 _ _ ?_
  simp only [thenK, blockK, keepE, updM, List.filter_cons, List.filter_nil, List.nil_append, List.cons_append, List.map_cons, List.map_nil, envE, Mem.get, Nat.reduceEqDiff, reduceIte, Option.isNone_none, Option.isNone_some, Bool.false_eq_true, List.length_cons, List.length_nil, Nat.reduceAdd, Nat.reduceMul]
  refine hK1 _ _ _ ?_
  refine rwp_seq fun K3 hK3 => ?_
  refine rwp_seq fun K4 hK4 => ?_
  refine rwp_region fun K5 hK5 => ?_
  refine st0 256 rfl (ok (mv (.d (eU64 a2)))) ?_
  refine st0 320 rfl (ok (eql64 _ (0#64))) ?_
  refine hK5 _ _ ?_
  simp only [thenK, blockK, keepE, updM, List.filter_cons, List.filter_nil, List.nil_append, List.cons_append, List.map_cons, List.map_nil, envE, Mem.get, Nat.reduceEqDiff, reduceIte, Option.isNone_none, Option.isNone_some, Bool.false_eq_true, List.length_cons, List.length_nil, Nat.reduceAdd, Nat.reduceMul]
  refine hK4 _ _ _ ?_
  rcases Bool.eq_false_or_eq_true ((a2 == (0#64))) with h6 | h6
  · replace h := ite_t h h6
    refine rwp_t (isT h6) ?_
    refine rwp_region fun K7 hK7 => ?_
    simp at h
  · replace h := ite_f h h6
    refine rwp_f (isF h6) ?_
    refine rwp_skip ?_
    refine hK3 _ _ _ ?_
    refine rwp_seq fun K8 hK8 => ?_
    refine rwp_seq fun K9 hK9 => ?_
    refine rwp_region fun K10 hK10 => ?_
    refine st0 384 rfl (ok (mv (.d (eU64 a2)))) ?_
    refine st0 448 rfl (ok (mv (.d (eU64 a0)))) ?_
    refine st0 512 rfl (ok (leq64 _ _)) ?_
    refine hK10 _ _ ?_
    simp only [thenK, blockK, keepE, updM, List.filter_cons, List.filter_nil, List.nil_append, List.cons_append, List.map_cons, List.map_nil, envE, Mem.get, Nat.reduceEqDiff, reduceIte, Option.isNone_none, Option.isNone_some, Bool.false_eq_true, List.length_cons, List.length_nil, Nat.reduceAdd, Nat.reduceMul]
    refine hK9 _ _ _ ?_
    rcases Bool.eq_false_or_eq_true ((decide (a2.toNat ≤ a0.toNat))) with h11 | h11
    · replace h := ite_t h h11
      refine rwp_t (isT h11) ?_
      refine rwp_region fun K12 hK12 => ?_
      simp at h
    · replace h := ite_f h h11
      refine rwp_f (isF h11) ?_
      refine rwp_skip ?_
      refine hK8 _ _ _ ?_
      refine rwp_seq fun K13 hK13 => ?_
      refine rwp_seq fun K14 hK14 => ?_
      refine rwp_region fun K15 hK15 => ?_
      refine st0 576 rfl (ok (mv (.d (eU64 a0)))) ?_
      refine st0 640 rfl (ok (eql64 _ (0#64))) ?_
      refine hK15 _ _ ?_
      simp only [thenK, blockK, keepE, updM, List.filter_cons, List.filter_nil, List.nil_append, List.cons_append, List.map_cons, List.map_nil, envE, Mem.get, Nat.reduceEqDiff, reduceIte, Option.isNone_none, Option.isNone_some, Bool.false_eq_true, List.length_cons, List.length_nil, Nat.reduceAdd, Nat.reduceMul]
      refine hK14 _ _ _ ?_
      rcases Bool.eq_false_or_eq_true ((a0 == (0#64))) with h16 | h16
      · replace h := ite_t h h16
        refine rwp_t (isT h16) ?_
        refine rwp_seq fun K17 hK17 => ?_
        refine rwp_draw fun K18 hK18 => ?_
        refine dr0 704 rfl (ok (mv (.d (eU64 a1)))) (by kernel_rfl) ?_
        refine dr0 768 rfl (ok (mv (.d (eU64 a2)))) (by kernel_rfl) ?_
        obtain ⟨h19, h⟩ := asq_inv h
        refine dr0 832 rfl (ok (quo64 _ _ h19)) (by kernel_rfl) ?_
        refine dr0 896 rfl (ok (mv (.d (eU64 a1)))) (by kernel_rfl) ?_
        refine dr0 960 rfl (ok (mv (.d (eU64 a2)))) (by kernel_rfl) ?_
        obtain ⟨h20, h⟩ := asq_inv h
        refine dr0 1024 rfl (ok (rem64 _ _ h20)) (by kernel_rfl) ?_
        refine dr0 1088 rfl (ok (mv (.d (eU64 (a1 / a2))))) (by kernel_rfl) ?_
        refine dr0 1152 rfl (ok (mv (.d (eU64 (a1 % a2))))) (by kernel_rfl) ?_
        refine hK18 _ _ ?_
        simp only [thenK, blockK, keepE, updM, List.filter_cons, List.filter_nil, List.nil_append, List.cons_append, List.map_cons, List.map_nil, envE, Mem.get, Nat.reduceEqDiff, reduceIte, Option.isNone_none, Option.isNone_some, Bool.false_eq_true, List.length_cons, List.length_nil, Nat.reduceAdd, Nat.reduceMul]
        refine hK17 _ _ _ ?_
        refine rwp_ret ?_
        obtain rfl := Option.some.inj h
        try simp only [thenK, blockK, reduceIte]
        exact end_ok trivial (rs_t (v := .d (eU64 (a1 / a2))) rfl (rs_t (v := .d (eU64 (a1 % a2))) rfl rs_nil)) (en_d (to_d _) (en_d (to_d _) en_nil)) ou_nil (by first | exact eok rfl rfl rfl rfl trivial | (refine eok ?_ ?_ ?_ ?_ ?_ <;> first | rfl | exact trivial | simp [retM, Mem.get, PV.renL, PV.ren, Blk.ren, comps, rhoR, rhoM, appN, PV.refsL, PV.refs, keys, nodupB, Blk.refs, allIn, Blk.bor]))
      · replace h := ite_f h h16
        refine rwp_f (isF h16) ?_
        refine rwp_skip ?_
        refine hK13 _ _ _ ?_
        refine rwp_seq fun K21 hK21 => ?_
        refine rwp_region fun K22 hK22 => ?_
        refine st0 704 rfl (ok (mv (.d (eU64 a2)))) ?_
        obtain ⟨y23, h24, h⟩ := bind_inv h
        refine st0 768 rfl (call_ok (v := .d (eI y23)) (u := []) (ar_d (eU64 a2) ar_nil) rfl (bitsLeadingZeros64OK a2 y23 h24) rfl) ?_
        refine st0 832 rfl (ok (ofI64 _ y23)) ?_
        refine st0 896 rfl (ok (mv (.d (eU64 (BitVec.ofInt 64 y23))))) ?_
        refine hK22 _ _ ?_
        simp only [thenK, blockK, keepE, updM, List.filter_cons, List.filter_nil, List.nil_append, List.cons_append, List.map_cons, List.map_nil, envE, Mem.get, Nat.reduceEqDiff, reduceIte, Option.isNone_none, Option.isNone_some, Bool.false_eq_true, List.length_cons, List.length_nil, Nat.reduceAdd, Nat.reduceMul]
        refine hK21 _ _ _ ?_
        refine rwp_seq fun K25 hK25 => ?_
        refine rwp_region fun K26 hK26 => ?_
        refine st0 960 rfl (ok (mv (.d (eU64 a2)))) ?_
        refine st0 1024 rfl (ok (mv (.d (eU64 (BitVec.ofInt 64 y23))))) ?_
        refine st0 1088 rfl (ok (shl64_64 _ _)) ?_
        refine st0 1152 rfl (ok (mv (.d (eU64 (a2 <<< (BitVec.ofInt 64 y23).toNat))))) ?_
        refine hK26 _ _ ?_
        simp only [thenK, blockK, keepE, updM, List.filter_cons, List.filter_nil, List.nil_append, List.cons_append, List.map_cons, List.map_nil, envE, Mem.get, Nat.reduceEqDiff, reduceIte, Option.isNone_none, Option.isNone_some, Bool.false_eq_true, List.length_cons, List.length_nil, Nat.reduceAdd, Nat.reduceMul]
        refine hK25 _ _ _ ?_
        refine rwp_seq fun K27 hK27 => ?_
        refine rwp_region fun K28 hK28 => ?_
        refine st0 1216 rfl (ok (mv (.d (eU64 (a2 <<< (BitVec.ofInt 64 y23).toNat))))) ?_
        refine st0 1280 rfl (ok (shrL64 _ 32 rfl)) ?_
        refine st0 1344 rfl (ok (mv (.d (eU64 ((a2 <<< (BitVec.ofInt 64 y23).toNat) >>> 32))))) ?_
        refine hK28 _ _ ?_
        simp only [thenK, blockK, keepE, updM, List.filter_cons, List.filter_nil, List.nil_append, List.cons_append, List.map_cons, List.map_nil, envE, Mem.get, Nat.reduceEqDiff, reduceIte, Option.isNone_none, Option.isNone_some, Bool.false_eq_true, List.length_cons, List.length_nil, Nat.reduceAdd, Nat.reduceMul]
        refine hK27 _ _ _ ?_
        refine rwp_seq fun K29 hK29 => ?_
        refine rwp_region fun K30 hK30 => ?_
        refine st0 1408 rfl (ok (mv (.d (eU64 (a2 <<< (BitVec.ofInt 64 y23).toNat))))) ?_
        refine st0 1472 rfl (ok (and64 _ (4294967295#64))) ?_
        refine st0 1536 rfl (ok (mv (.d (eU64 ((a2 <<< (BitVec.ofInt 64 y23).toNat) &&& (4294967295#64)))))) ?_
        refine hK30 _ _ ?_
        simp only [thenK, blockK, keepE, updM, List.filter_cons, List.filter_nil, List.nil_append, List.cons_append, List.map_cons, List.map_nil, envE, Mem.get, Nat.reduceEqDiff, reduceIte, Option.isNone_none, Option.isNone_some, Bool.false_eq_true, List.length_cons, List.length_nil, Nat.reduceAdd, Nat.reduceMul]
        refine hK29 _ _ _ ?_
        refine rwp_seq fun K31 hK31 => ?_
        refine rwp_region fun K32 hK32 => ?_
        refine st0 1600 rfl (ok (mv (.d (eU64 a0)))) ?_
        refine st0 1664 rfl (ok (mv (.d (eU64 (BitVec.ofInt 64 y23))))) ?_
        refine st0 1728 rfl (ok (shl64_64 _ _)) ?_
        refine st0 1792 rfl (ok (mv (.d (eU64 a1)))) ?_
        refine st0 1856 rfl (ok (mv (.d (eU64 (BitVec.ofInt 64 y23))))) ?_
        refine st0 1920 rfl (ok (sub64 (64#64) _)) ?_
        refine st0 1984 rfl (ok (shr64_64 _ _)) ?_
        obtain ⟨v33, h34, h⟩ := lett_inv h
        refine st0e 2048 rfl (ok (or64 _ _)) (congrArg (fun z => PV.d (eU64 z)) h34) ?_
        refine st0 2112 rfl (ok (mv (.d (eU64 v33)))) ?_
        refine hK32 _ _ ?_
        simp only [thenK, blockK, keepE, updM, List.filter_cons, List.filter_nil, List.nil_append, List.cons_append, List.map_cons, List.map_nil, envE, Mem.get, Nat.reduceEqDiff, reduceIte, Option.isNone_none, Option.isNone_some, Bool.false_eq_true, List.length_cons, List.length_nil, Nat.reduceAdd, Nat.reduceMul]
        refine hK31 _ _ _ ?_
        refine rwp_seq fun K35 hK35 => ?_
        refine rwp_region fun K36 hK36 => ?_
        refine st0 2176 rfl (ok (mv (.d (eU64 a1)))) ?_
        refine st0 2240 rfl (ok (mv (.d (eU64 (BitVec.ofInt 64 y23))))) ?_
        refine st0 2304 rfl (ok (shl64_64 _ _)) ?_
        refine st0 2368 rfl (ok (mv (.d (eU64 (a1 <<< (BitVec.ofInt 64 y23).toNat))))) ?_
        refine hK36 _ _ ?_
        simp only [thenK, blockK, keepE, updM, List.filter_cons, List.filter_nil, List.nil_append, List.cons_append, List.map_cons, List.map_nil, envE, Mem.get, Nat.reduceEqDiff, reduceIte, Option.isNone_none, Option.isNone_some, Bool.false_eq_true, List.length_cons, List.length_nil, Nat.reduceAdd, Nat.reduceMul]
        refine hK35 _ _ _ ?_
        refine rwp_seq fun K37 hK37 => ?_
        refine rwp_region fun K38 hK38 => ?_
        refine st0 2432 rfl (ok (mv (.d (eU64 (a1 <<< (BitVec.ofInt 64 y23).toNat))))) ?_
        refine st0 2496 rfl (ok (shrL64 _ 32 rfl)) ?_
        refine st0 2560 rfl (ok (mv (.d (eU64 ((a1 <<< (BitVec.ofInt 64 y23).toNat) >>> 32))))) ?_
        refine hK38 _ _ ?_
        simp only [thenK, blockK, keepE, updM, List.filter_cons, List.filter_nil, List.nil_append, List.cons_append, List.map_cons, List.map_nil, envE, Mem.get, Nat.reduceEqDiff, reduceIte, Option.isNone_none, Option.isNone_some, Bool.false_eq_true, List.length_cons, List.length_nil, Nat.reduceAdd, Nat.reduceMul]
        refine hK37 _ _ _ ?_
        refine rwp_seq fun K39 hK39 => ?_
        refine rwp_region fun K40 hK40 => ?_
        refine st0 2624 rfl (ok (mv (.d (eU64 (a1 <<< (BitVec.ofInt 64 y23).toNat))))) ?_
        refine st0 2688 rfl (ok (and64 _ (4294967295#64))) ?_
        refine st0 2752 rfl (ok (mv (.d (eU64 ((a1 <<< (BitVec.ofInt 64 y23).toNat) &&& (4294967295#64)))))) ?_
        refine hK40 _ _ ?_
        simp only [thenK, blockK, keepE, updM, List.filter_cons, List.filter_nil, List.nil_append, List.cons_append, List.map_cons, List.map_nil, envE, Mem.get, Nat.reduceEqDiff, reduceIte, Option.isNone_none, Option.isNone_some, Bool.false_eq_true, List.length_cons, List.length_nil, Nat.reduceAdd, Nat.reduceMul]
        refine hK39 _ _ _ ?_
        refine rwp_seq fun K41 hK41 => ?_
        refine rwp_region fun K42 hK42 => ?_
        refine st0 2816 rfl (ok (mv (.d (eU64 v33)))) ?_
        refine st0 2880 rfl (ok (mv (.d (eU64 ((a2 <<< (BitVec.ofInt 64 y23).toNat) >>> 32))))) ?_
        obtain ⟨h43, h⟩ := asq_inv h
        refine st0 2944 rfl (ok (quo64 _ _ h43)) ?_
        refine st0 3008 rfl (ok (mv (.d (eU64 (v33 / ((a2 <<< (BitVec.ofInt 64 y23).toNat) >>> 32)))))) ?_
        refine hK42 _ _ ?_
        simp only [thenK, blockK, keepE, updM, List.filter_cons, List.filter_nil, List.nil_append, List.cons_append, List.map_cons, List.map_nil, envE, Mem.get, Nat.reduceEqDiff, reduceIte, Option.isNone_none, Option.isNone_some, Bool.false_eq_true, List.length_cons, List.length_nil, Nat.reduceAdd, Nat.reduceMul]
        refine hK41 _ _ _ ?_
        refine rwp_seq fun K44 hK44 => ?_
        refine rwp_region fun K45 hK45 => ?_
        refine st0 3072 rfl (ok (mv (.d (eU64 v33)))) ?_
        refine st0 3136 rfl (ok (mv (.d (eU64 (v33 / ((a2 <<< (BitVec.ofInt 64 y23).toNat) >>> 32)))))) ?_
        refine st0 3200 rfl (ok (mv (.d (eU64 ((a2 <<< (BitVec.ofInt 64 y23).toNat) >>> 32))))) ?_
        obtain ⟨v46, h47, h⟩ := lett_inv h
        refine st0e 3264 rfl (ok (mul64 _ _)) (congrArg (fun z => PV.d (eU64 z)) h47) ?_
        refine st0 3328 rfl (ok (sub64 _ _)) ?_
        refine st0 3392 rfl (ok (mv (.d (eU64 (v33 - v46))))) ?_
        refine hK45 _ _ ?_
        simp only [thenK, blockK, keepE, updM, List.filter_cons, List.filter_nil, List.nil_append, List.cons_append, List.map_cons, List.map_nil, envE, Mem.get, Nat.reduceEqDiff, reduceIte, Option.isNone_none, Option.isNone_some, Bool.false_eq_true, List.length_cons, List.length_nil, Nat.reduceAdd, Nat.reduceMul]
        refine hK44 _ _ _ ?_
        refine rwp_join ([], []) 6400 (fun env mem => ∃ (v48 : BitVec 64), bitsDiv64J1 a1 a2 y23 v33 v48 = some res ∧ env = [(2, .d (eU64 (a2 <<< (BitVec.ofInt 64 y23).toNat))), (8, .d (eU64 (BitVec.ofInt 64 y23))), (9, .d (eU64 ((a2 <<< (BitVec.ofInt 64 y23).toNat) >>> 32))), (10, .d (eU64 ((a2 <<< (BitVec.ofInt 64 y23).toNat) &&& (4294967295#64)))), (11, .d (eU64 v33)), (13, .d (eU64 ((a1 <<< (BitVec.ofInt 64 y23).toNat) >>> 32))), (14, .d (eU64 ((a1 <<< (BitVec.ofInt 64 y23).toNat) &&& (4294967295#64)))), (15, .d (eU64 v48))] ∧ mem = []) (fun _ _ hI => ?_) (fun K49 hK49 => ?_)
        · obtain ⟨v48, h, rfl, rfl⟩ := hI
          unfold bitsDiv64J1 at h
          refine rwp_seq fun K50 hK50 => ?_
          refine rwp_region fun K51 hK51 => ?_
          refine st0 6464 rfl (ok (mv (.d (eU64 v33)))) ?_
          refine st0 6528 rfl (ok (mul64 _ (4294967296#64))) ?_
          refine st0 6592 rfl (ok (mv (.d (eU64 ((a1 <<< (BitVec.ofInt 64 y23).toNat) >>> 32))))) ?_
          obtain ⟨v52, h53, h⟩ := lett_inv h
          refine st0e 6656 rfl (ok (add64 _ _)) (congrArg (fun z => PV.d (eU64 z)) h53) ?_
          refine st0 6720 rfl (ok (mv (.d (eU64 v48)))) ?_
          refine st0 6784 rfl (ok (mv (.d (eU64 (a2 <<< (BitVec.ofInt 64 y23).toNat))))) ?_
          refine st0 6848 rfl (ok (mul64 _ _)) ?_
          refine st0 6912 rfl (ok (sub64 _ _)) ?_
          refine st0 6976 rfl (ok (mv (.d (eU64 (v52 - (v48 * (a2 <<< (BitVec.ofInt 64 y23).toNat))))))) ?_
          refine hK51 _ _ ?_
          simp only [thenK, blockK, keepE, updM, List.filter_cons, List.filter_nil, List.nil_append, List.cons_append, List.map_cons, List.map_nil, envE, Mem.get, Nat.reduceEqDiff, reduceIte, Option.isNone_none, Option.isNone_some, Bool.false_eq_true, List.length_cons, List.length_nil, Nat.reduceAdd, Nat.reduceMul]
          refine hK50 _ _ _ ?_
          refine rwp_seq fun K54 hK54 => ?_
          refine rwp_region fun K55 hK55 => ?_
          refine st0 7040 rfl (ok (mv (.d (eU64 (v52 - (v48 * (a2 <<< (BitVec.ofInt 64 y23).toNat))))))) ?_
          refine st0 7104 rfl (ok (mv (.d (eU64 ((a2 <<< (BitVec.ofInt 64 y23).toNat) >>> 32))))) ?_
          obtain ⟨h56, h⟩ := asq_inv h
          obtain ⟨v57, h58, h⟩ := lett_inv h
          refine st0e 7168 rfl (ok (quo64 _ _ h56)) (congrArg (fun z => PV.d (eU64 z)) h58) ?_
          refine st0 7232 rfl (ok (mv (.d (eU64 v57)))) ?_
          refine hK55 _ _ ?_
          simp only [thenK, blockK, keepE, updM, List.filter_cons, List.filter_nil, List.nil_append, List.cons_append, List.map_cons, List.map_nil, envE, Mem.get, Nat.reduceEqDiff, reduceIte, Option.isNone_none, Option.isNone_some, Bool.false_eq_true, List.length_cons, List.length_nil, Nat.reduceAdd, Nat.reduceMul]
          refine hK54 _ _ _ ?_
          refine rwp_seq fun K59 hK59 => ?_
          refine rwp_region fun K60 hK60 => ?_
          refine st0 7296 rfl (ok (mv (.d (eU64 (v52 - (v48 * (a2 <<< (BitVec.ofInt 64 y23).toNat))))))) ?_
          refine st0 7360 rfl (ok (mv (.d (eU64 v57)))) ?_
          refine st0 7424 rfl (ok (mv (.d (eU64 ((a2 <<< (BitVec.ofInt 64 y23).toNat) >>> 32))))) ?_
          refine st0 7488 rfl (ok (mul64 _ _)) ?_
          obtain ⟨v61, h62, h⟩ := lett_inv h
          refine st0e 7552 rfl (ok (sub64 _ _)) (congrArg (fun z => PV.d (eU64 z)) h62) ?_
          refine st0 7616 rfl (ok (mv (.d (eU64 v61)))) ?_
          refine hK60 _ _ ?_
          simp only [thenK, blockK, keepE, updM, List.filter_cons, List.filter_nil, List.nil_append, List.cons_append, List.map_cons, List.map_nil, envE, Mem.get, Nat.reduceEqDiff, reduceIte, Option.isNone_none, Option.isNone_some, Bool.false_eq_true, List.length_cons, List.length_nil, Nat.reduceAdd, Nat.reduceMul]
          refine hK59 _ _ _ ?_
          refine rwp_join ([], []) 10624 (fun env mem => ∃ (v63 : BitVec 64), bitsDiv64J2 a1 a2 y23 v48 v52 v63 = some res ∧ env = [(2, .d (eU64 (a2 <<< (BitVec.ofInt 64 y23).toNat))), (8, .d (eU64 (BitVec.ofInt 64 y23))), (14, .d (eU64 ((a1 <<< (BitVec.ofInt 64 y23).toNat) &&& (4294967295#64)))), (15, .d (eU64 v48)), (17, .d (eU64 (v52 - (v48 * (a2 <<< (BitVec.ofInt 64 y23).toNat))))), (18, .d (eU64 v63))] ∧ mem = []) (fun _ _ hI => ?_) (fun K64 hK64 => ?_)
          · obtain ⟨v63, h, rfl, rfl⟩ := hI
            unfold bitsDiv64J2 at h
            refine rwp_seq fun K65 hK65 => ?_
            refine rwp_region fun K66 hK66 => ?_
            refine st0 10688 rfl (ok (mv (.d (eU64 v48)))) ?_
            refine st0 10752 rfl (ok (mul64 _ (4294967296#64))) ?_
            refine st0 10816 rfl (ok (mv (.d (eU64 v63)))) ?_
            refine st0 10880 rfl (ok (add64 _ _)) ?_
            refine st0 10944 rfl (ok (mv (.d (eU64 (v52 - (v48 * (a2 <<< (BitVec.ofInt 64 y23).toNat))))))) ?_
            obtain ⟨v67, h68, h⟩ := lett_inv h
            refine st0e 11008 rfl (ok (mul64 _ (4294967296#64))) (congrArg (fun z => PV.d (eU64 z)) h68) ?_
            refine st0 11072 rfl (ok (mv (.d (eU64 ((a1 <<< (BitVec.ofInt 64 y23).toNat) &&& (4294967295#64)))))) ?_
            obtain ⟨v69, h70, h⟩ := lett_inv h
            refine st0e 11136 rfl (ok (add64 _ _)) (congrArg (fun z => PV.d (eU64 z)) h70) ?_
            refine st0 11200 rfl (ok (mv (.d (eU64 v63)))) ?_
            refine st0 11264 rfl (ok (mv (.d (eU64 (a2 <<< (BitVec.ofInt 64 y23).toNat))))) ?_
            refine st0 11328 rfl (ok (mul64 _ _)) ?_
            refine st0 11392 rfl (ok (sub64 _ _)) ?_
            refine st0 11456 rfl (ok (mv (.d (eU64 (BitVec.ofInt 64 y23))))) ?_
            obtain ⟨v71, h72, h⟩ := lett_inv h
            refine st0e 11520 rfl (ok (shr64_64 _ _)) (congrArg (fun z => PV.d (eU64 z)) h72) ?_
            refine st0 11584 rfl (ok (mv (.d (eU64 ((v48 * (4294967296#64)) + v63))))) ?_
            refine st0 11648 rfl (ok (mv (.d (eU64 v71)))) ?_
            refine hK66 _ _ ?_
            simp only [thenK, blockK, keepE, updM, List.filter_cons, List.filter_nil, List.nil_append, List.cons_append, List.map_cons, List.map_nil, envE, Mem.get, Nat.reduceEqDiff, reduceIte, Option.isNone_none, Option.isNone_some, Bool.false_eq_true, List.length_cons, List.length_nil, Nat.reduceAdd, Nat.reduceMul]
            refine hK65 _ _ _ ?_
            refine rwp_ret ?_
            obtain rfl := Option.some.inj h
            try simp only [thenK, blockK, reduceIte]
            exact end_ok trivial (rs_t (v := .d (eU64 ((v48 * (4294967296#64)) + v63))) rfl (rs_t (v := .d (eU64 v71)) rfl rs_nil)) (en_d (to_d _) (en_d (to_d _) en_nil)) ou_nil (by first | exact eok rfl rfl rfl rfl trivial | (refine eok ?_ ?_ ?_ ?_ ?_ <;> first | rfl | exact trivial | simp [retM, Mem.get, PV.renL, PV.ren, Blk.ren, comps, rhoR, rhoM, appN, PV.refsL, PV.refs, keys, nodupB, Blk.refs, allIn, Blk.bor]))
          · refine rwp_block fun K73 hK73 => ?_
            refine rwp_loop ([], []) 9152 (fun k env mem => ∃ (v74 : BitVec 64) (v75 : BitVec 64), bitsDiv64L3 a1 a2 y23 v48 v52 k v74 v75 = some res ∧ env = [(2, .d (eU64 (a2 <<< (BitVec.ofInt 64 y23).toNat))), (8, .d (eU64 (BitVec.ofInt 64 y23))), (9, .d (eU64 ((a2 <<< (BitVec.ofInt 64 y23).toNat) >>> 32))), (10, .d (eU64 ((a2 <<< (BitVec.ofInt 64 y23).toNat) &&& (4294967295#64)))), (14, .d (eU64 ((a1 <<< (BitVec.ofInt 64 y23).toNat) &&& (4294967295#64)))), (15, .d (eU64 v48)), (16, .d (eU64 v74)), (17, .d (eU64 (v52 - (v48 * (a2 <<< (BitVec.ofInt 64 y23).toNat))))), (18, .d (eU64 v75))] ∧ mem = []) FUEL ⟨_, _, Settled.refl, _, _, ⟨_, _, h, rfl, rfl⟩, ⟨rfl, ⟨⟨rfl, rfl⟩, ⟨⟨rfl, rfl⟩, ⟨⟨rfl, rfl⟩, ⟨⟨rfl, rfl⟩, ⟨⟨rfl, rfl⟩, ⟨⟨rfl, rfl⟩, ⟨⟨rfl, rfl⟩, ⟨⟨rfl, rfl⟩, ⟨⟨rfl, rfl⟩, trivial⟩⟩⟩⟩⟩⟩⟩⟩⟩, trivial⟩, rfl⟩ (fun k3 env1 mem1 hI K76 hK76 => ?_)
            obtain ⟨v74, v75, h, rfl, rfl⟩ := hI
            cases k3 with
            | zero => simp [bitsDiv64L3] at h
            | succ k3 =>
              rw [bitsDiv64L3] at h
              refine rwp_seq fun K77 hK77 => ?_
              refine rwp_join ([], []) 9984 (fun env mem => ∃ (v78 : Bool), bitsDiv64J4 (bitsDiv64L3 a1 a2 y23 v48 v52 k3) a1 a2 y23 v48 v52 v74 v75 v78 = some res ∧ env = [(2, .d (eU64 (a2 <<< (BitVec.ofInt 64 y23).toNat))), (8, .d (eU64 (BitVec.ofInt 64 y23))), (9, .d (eU64 ((a2 <<< (BitVec.ofInt 64 y23).toNat) >>> 32))), (10, .d (eU64 ((a2 <<< (BitVec.ofInt 64 y23).toNat) &&& (4294967295#64)))), (14, .d (eU64 ((a1 <<< (BitVec.ofInt 64 y23).toNat) &&& (4294967295#64)))), (15, .d (eU64 v48)), (16, .d (eU64 v74)), (17, .d (eU64 (v52 - (v48 * (a2 <<< (BitVec.ofInt 64 y23).toNat))))), (18, .d (eU64 v75)), (113, .d (eB v78))] ∧ mem = []) (fun _ _ hI => ?_) (fun K79 hK79 => ?_)
              · obtain ⟨v78, h, rfl, rfl⟩ := hI
                unfold bitsDiv64J4 at h
                rcases Bool.eq_false_or_eq_true (v78) with h80 | h80
                · replace h := ite_t h h80
                  refine rwp_t (isT h80) ?_
                  refine rwp_skip ?_
                  refine hK77 _ _ _ ?_
                  refine rwp_block fun K81 hK81 => ?_
                  refine rwp_seq fun K82 hK82 => ?_
                  refine rwp_region fun K83 hK83 => ?_
                  refine st0 10048 rfl (ok (mv (.d (eU64 v75)))) ?_
                  refine st0 10112 rfl (ok (sub64 _ (1#64))) ?_
                  refine st0 10176 rfl (ok (mv (.d (eU64 (v75 - (1#64)))))) ?_
                  refine hK83 _ _ ?_
                  simp only [thenK, blockK, keepE, updM, List.filter_cons, List.filter_nil, List.nil_append, List.cons_append, List.map_cons, List.map_nil, envE, Mem.get, Nat.reduceEqDiff, reduceIte, Option.isNone_none, Option.isNone_some, Bool.false_eq_true, List.length_cons, List.length_nil, Nat.reduceAdd, Nat.reduceMul]
                  refine hK82 _ _ _ ?_
                  refine rwp_seq fun K84 hK84 => ?_
                  refine rwp_region fun K85 hK85 => ?_
                  refine st0 10240 rfl (ok (mv (.d (eU64 v74)))) ?_
                  refine st0 10304 rfl (ok (mv (.d (eU64 ((a2 <<< (BitVec.ofInt 64 y23).toNat) >>> 32))))) ?_
                  refine st0 10368 rfl (ok (add64 _ _)) ?_
                  refine st0 10432 rfl (ok (mv (.d (eU64 (v74 + ((a2 <<< (BitVec.ofInt 64 y23).toNat) >>> 32)))))) ?_
                  refine hK85 _ _ ?_
                  simp only [thenK, blockK, keepE, updM, List.filter_cons, List.filter_nil, List.nil_append, List.cons_append, List.map_cons, List.map_nil, envE, Mem.get, Nat.reduceEqDiff, reduceIte, Option.isNone_none, Option.isNone_some, Bool.false_eq_true, List.length_cons, List.length_nil, Nat.reduceAdd, Nat.reduceMul]
                  refine hK84 _ _ _ ?_
                  refine rwp_seq fun K86 hK86 => ?_
                  refine rwp_region fun K87 hK87 => ?_
                  refine st0 10496 rfl (ok (mv (.d (eU64 (v74 + ((a2 <<< (BitVec.ofInt 64 y23).toNat) >>> 32)))))) ?_
                  refine st0 10560 rfl (ok (geq64 _ (4294967296#64))) ?_
                  refine hK87 _ _ ?_
                  simp only [thenK, blockK, keepE, updM, List.filter_cons, List.filter_nil, List.nil_append, List.cons_append, List.map_cons, List.map_nil, envE, Mem.get, Nat.reduceEqDiff, reduceIte, Option.isNone_none, Option.isNone_some, Bool.false_eq_true, List.length_cons, List.length_nil, Nat.reduceAdd, Nat.reduceMul]
                  refine hK86 _ _ _ ?_
                  rcases Bool.eq_false_or_eq_true ((decide ((4294967296#64).toNat ≤ (v74 + ((a2 <<< (BitVec.ofInt 64 y23).toNat) >>> 32)).toNat))) with h88 | h88
                  · replace h := ite_t h h88
                    refine rwp_t (isT h88) ?_
                    refine rwp_exit ?_
                    refine hK73 _ _ _ ?_
                    exact hK64 _ _ _ ⟨_, _, Settled.refl, _, _, ⟨_, h, rfl, rfl⟩, ⟨rfl, ⟨⟨rfl, rfl⟩, ⟨⟨rfl, rfl⟩, ⟨⟨rfl, rfl⟩, ⟨⟨rfl, rfl⟩, ⟨⟨rfl, rfl⟩, ⟨⟨rfl, rfl⟩, trivial⟩⟩⟩⟩⟩⟩, trivial⟩, rfl⟩
                  · replace h := ite_f h h88
                    refine rwp_f (isF h88) ?_
                    refine rwp_skip ?_
                    refine hK81 _ _ _ ?_
                    exact hK76.out _ _ _ k3 (Nat.lt_succ_self k3) ⟨_, _, Settled.refl, _, _, ⟨_, _, h, rfl, rfl⟩, ⟨rfl, ⟨⟨rfl, rfl⟩, ⟨⟨rfl, rfl⟩, ⟨⟨rfl, rfl⟩, ⟨⟨rfl, rfl⟩, ⟨⟨rfl, rfl⟩, ⟨⟨rfl, rfl⟩, ⟨⟨rfl, rfl⟩, ⟨⟨rfl, rfl⟩, ⟨⟨rfl, rfl⟩, trivial⟩⟩⟩⟩⟩⟩⟩⟩⟩, trivial⟩, rfl⟩
                · replace h := ite_f h h80
                  refine rwp_f (isF h80) ?_
                  refine rwp_exit ?_
                  refine hK73 _ _ _ ?_
                  exact hK64 _ _ _ ⟨_, _, Settled.refl, _, _, ⟨_, h, rfl, rfl⟩, ⟨rfl, ⟨⟨rfl, rfl⟩, ⟨⟨rfl, rfl⟩, ⟨⟨rfl, rfl⟩, ⟨⟨rfl, rfl⟩, ⟨⟨rfl, rfl⟩, ⟨⟨rfl, rfl⟩, trivial⟩⟩⟩⟩⟩⟩, trivial⟩, rfl⟩
              · refine rwp_region fun K89 hK89 => ?_
                refine st0 9216 rfl (ok (mv (.d (eU64 v75)))) ?_
                refine st0 9280 rfl (ok (geq64 _ (4294967296#64))) ?_
                refine st0 9344 rfl (ok (mv (.d (eB (decide ((4294967296#64).toNat ≤ v75.toNat)))))) ?_
                rcases Bool.eq_false_or_eq_true ((decide ((4294967296#64).toNat ≤ v75.toNat))) with h90 | h90
                · replace h := ite_t h h90
                  refine stGN 9408 rfl rfl h90 ?_
                  refine stGN 9472 rfl rfl h90 ?_
                  refine stGN 9536 rfl rfl h90 ?_
                  refine stGN 9600 rfl rfl h90 ?_
                  refine stGN 9664 rfl rfl h90 ?_
                  refine stGN 9728 rfl rfl h90 ?_
                  refine stGN 9792 rfl rfl h90 ?_
                  refine stGN 9856 rfl rfl h90 ?_
                  refine st0 9920 rfl (ok (pick_t h90 (.d (eB true)) _)) ?_
                  refine hK89 _ _ ?_
                  simp only [thenK, blockK, keepE, updM, List.filter_cons, List.filter_nil, List.nil_append, List.cons_append, List.map_cons, List.map_nil, envE, Mem.get, Nat.reduceEqDiff, reduceIte, Option.isNone_none, Option.isNone_some, Bool.false_eq_true, List.length_cons, List.length_nil, Nat.reduceAdd, Nat.reduceMul]
                  exact hK79 _ _ _ ⟨_, _, Settled.refl, _, _, ⟨_, h, rfl, rfl⟩, ⟨rfl, ⟨⟨rfl, rfl⟩, ⟨⟨rfl, rfl⟩, ⟨⟨rfl, rfl⟩, ⟨⟨rfl, rfl⟩, ⟨⟨rfl, rfl⟩, ⟨⟨rfl, rfl⟩, ⟨⟨rfl, rfl⟩, ⟨⟨rfl, rfl⟩, ⟨⟨rfl, rfl⟩, ⟨⟨rfl, rfl⟩, trivial⟩⟩⟩⟩⟩⟩⟩⟩⟩⟩, trivial⟩, rfl⟩
                · replace h := ite_f h h90
                  refine stG (isF h90) ?_
                  refine st0 9408 rfl (ok (mv (.d (eU64 v75)))) ?_
                  refine stG (isF h90) ?_
                  refine st0 9472 rfl (ok (mv (.d (eU64 ((a2 <<< (BitVec.ofInt 64 y23).toNat) &&& (4294967295#64)))))) ?_
                  refine stG (isF h90) ?_
                  obtain ⟨v91, h92, h⟩ := lett_inv h
                  refine st0e 9536 rfl (ok (mul64 _ _)) (congrArg (fun z => PV.d (eU64 z)) h92) ?_
                  refine stG (isF h90) ?_
                  refine st0 9600 rfl (ok (mv (.d (eU64 v74)))) ?_
                  refine stG (isF h90) ?_
                  refine st0 9664 rfl (ok (mul64 (4294967296#64) _)) ?_
                  refine stG (isF h90) ?_
                  refine st0 9728 rfl (ok (mv (.d (eU64 ((a1 <<< (BitVec.ofInt 64 y23).toNat) &&& (4294967295#64)))))) ?_
                  refine stG (isF h90) ?_
                  obtain ⟨v93, h94, h⟩ := lett_inv h
                  refine st0e 9792 rfl (ok (add64 _ _)) (congrArg (fun z => PV.d (eU64 z)) h94) ?_
                  refine stG (isF h90) ?_
                  refine st0 9856 rfl (ok (gtr64 _ _)) ?_
                  refine st0 9920 rfl (ok (pick_f h90 _ (.d (eB (decide (v93.toNat < v91.toNat)))))) ?_
                  refine hK89 _ _ ?_
                  simp only [thenK, blockK, keepE, updM, List.filter_cons, List.filter_nil, List.nil_append, List.cons_append, List.map_cons, List.map_nil, envE, Mem.get, Nat.reduceEqDiff, reduceIte, Option.isNone_none, Option.isNone_some, Bool.false_eq_true, List.length_cons, List.length_nil, Nat.reduceAdd, Nat.reduceMul]
                  exact hK79 _ _ _ ⟨_, _, Settled.refl, _, _, ⟨_, h, rfl, rfl⟩, ⟨rfl, ⟨⟨rfl, rfl⟩, ⟨⟨rfl, rfl⟩, ⟨⟨rfl, rfl⟩, ⟨⟨rfl, rfl⟩, ⟨⟨rfl, rfl⟩, ⟨⟨rfl, rfl⟩, ⟨⟨rfl, rfl⟩, ⟨⟨rfl, rfl⟩, ⟨⟨rfl, rfl⟩, ⟨⟨rfl, rfl⟩, trivial⟩⟩⟩⟩⟩⟩⟩⟩⟩⟩, trivial⟩, rfl⟩
        · refine rwp_block fun K95 hK95 => ?_
          refine rwp_loop ([], []) 4928 (fun k env mem => ∃ (v96 : BitVec 64) (v97 : BitVec 64), bitsDiv64L5 a1 a2 y23 v33 k v96 v97 = some res ∧ env = [(2, .d (eU64 (a2 <<< (BitVec.ofInt 64 y23).toNat))), (8, .d (eU64 (BitVec.ofInt 64 y23))), (9, .d (eU64 ((a2 <<< (BitVec.ofInt 64 y23).toNat) >>> 32))), (10, .d (eU64 ((a2 <<< (BitVec.ofInt 64 y23).toNat) &&& (4294967295#64)))), (11, .d (eU64 v33)), (13, .d (eU64 ((a1 <<< (BitVec.ofInt 64 y23).toNat) >>> 32))), (14, .d (eU64 ((a1 <<< (BitVec.ofInt 64 y23).toNat) &&& (4294967295#64)))), (15, .d (eU64 v96)), (16, .d (eU64 v97))] ∧ mem = []) FUEL ⟨_, _, Settled.refl, _, _, ⟨_, _, h, rfl, rfl⟩, ⟨rfl, ⟨⟨rfl, rfl⟩, ⟨⟨rfl, rfl⟩, ⟨⟨rfl, rfl⟩, ⟨⟨rfl, rfl⟩, ⟨⟨rfl, rfl⟩, ⟨⟨rfl, rfl⟩, ⟨⟨rfl, rfl⟩, ⟨⟨rfl, rfl⟩, ⟨⟨rfl, rfl⟩, trivial⟩⟩⟩⟩⟩⟩⟩⟩⟩, trivial⟩, rfl⟩ (fun k5 env1 mem1 hI K98 hK98 => ?_)
          obtain ⟨v96, v97, h, rfl, rfl⟩ := hI
          cases k5 with
          | zero => simp [bitsDiv64L5] at h
          | succ k5 =>
            rw [bitsDiv64L5] at h
            refine rwp_seq fun K99 hK99 => ?_
            refine rwp_join ([], []) 5760 (fun env mem => ∃ (v100 : Bool), bitsDiv64J6 (bitsDiv64L5 a1 a2 y23 v33 k5) a1 a2 y23 v33 v96 v97 v100 = some res ∧ env = [(2, .d (eU64 (a2 <<< (BitVec.ofInt 64 y23).toNat))), (8, .d (eU64 (BitVec.ofInt 64 y23))), (9, .d (eU64 ((a2 <<< (BitVec.ofInt 64 y23).toNat) >>> 32))), (10, .d (eU64 ((a2 <<< (BitVec.ofInt 64 y23).toNat) &&& (4294967295#64)))), (11, .d (eU64 v33)), (13, .d (eU64 ((a1 <<< (BitVec.ofInt 64 y23).toNat) >>> 32))), (14, .d (eU64 ((a1 <<< (BitVec.ofInt 64 y23).toNat) &&& (4294967295#64)))), (15, .d (eU64 v96)), (16, .d (eU64 v97)), (78, .d (eB v100))] ∧ mem = []) (fun _ _ hI => ?_) (fun K101 hK101 => ?_)
            · obtain ⟨v100, h, rfl, rfl⟩ := hI
              unfold bitsDiv64J6 at h
              rcases Bool.eq_false_or_eq_true (v100) with h102 | h102
              · replace h := ite_t h h102
                refine rwp_t (isT h102) ?_
                refine rwp_skip ?_
                refine hK99 _ _ _ ?_
                refine rwp_block fun K103 hK103 => ?_
                refine rwp_seq fun K104 hK104 => ?_
                refine rwp_region fun K105 hK105 => ?_
                refine st0 5824 rfl (ok (mv (.d (eU64 v96)))) ?_
                refine st0 5888 rfl (ok (sub64 _ (1#64))) ?_
                refine st0 5952 rfl (ok (mv (.d (eU64 (v96 - (1#64)))))) ?_
                refine hK105 _ _ ?_
                simp only [thenK, blockK, keepE, updM, List.filter_cons, List.filter_nil, List.nil_append, List.cons_append, List.map_cons, List.map_nil, envE, Mem.get, Nat.reduceEqDiff, reduceIte, Option.isNone_none, Option.isNone_some, Bool.false_eq_true, List.length_cons, List.length_nil, Nat.reduceAdd, Nat.reduceMul]
                refine hK104 _ _ _ ?_
                refine rwp_seq fun K106 hK106 => ?_
                refine rwp_region fun K107 hK107 => ?_
                refine st0 6016 rfl (ok (mv (.d (eU64 v97)))) ?_
                refine st0 6080 rfl (ok (mv (.d (eU64 ((a2 <<< (BitVec.ofInt 64 y23).toNat) >>> 32))))) ?_
                refine st0 6144 rfl (ok (add64 _ _)) ?_
                refine st0 6208 rfl (ok (mv (.d (eU64 (v97 + ((a2 <<< (BitVec.ofInt 64 y23).toNat) >>> 32)))))) ?_
                refine hK107 _ _ ?_
                simp only [thenK, blockK, keepE, updM, List.filter_cons, List.filter_nil, List.nil_append, List.cons_append, List.map_cons, List.map_nil, envE, Mem.get, Nat.reduceEqDiff, reduceIte, Option.isNone_none, Option.isNone_some, Bool.false_eq_true, List.length_cons, List.length_nil, Nat.reduceAdd, Nat.reduceMul]
                refine hK106 _ _ _ ?_
                refine rwp_seq fun K108 hK108 => ?_
                refine rwp_region fun K109 hK109 => ?_
                refine st0 6272 rfl (ok (mv (.d (eU64 (v97 + ((a2 <<< (BitVec.ofInt 64 y23).toNat) >>> 32)))))) ?_
                refine st0 6336 rfl (ok (geq64 _ (4294967296#64))) ?_
                refine hK109 _ _ ?_
                simp only [thenK, blockK, keepE, updM, List.filter_cons, List.filter_nil, List.nil_append, List.cons_append, List.map_cons, List.map_nil, envE, Mem.get, Nat.reduceEqDiff, reduceIte, Option.isNone_none, Option.isNone_some, Bool.false_eq_true, List.length_cons, List.length_nil, Nat.reduceAdd, Nat.reduceMul]
                refine hK108 _ _ _ ?_
                rcases Bool.eq_false_or_eq_true ((decide ((4294967296#64).toNat ≤ (v97 + ((a2 <<< (BitVec.ofInt 64 y23).toNat) >>> 32)).toNat))) with h110 | h110
                · replace h := ite_t h h110
                  refine rwp_t (isT h110) ?_
                  refine rwp_exit ?_
                  refine hK95 _ _ _ ?_
                  exact hK49 _ _ _ ⟨_, _, Settled.refl, _, _, ⟨_, h, rfl, rfl⟩, ⟨rfl, ⟨⟨rfl, rfl⟩, ⟨⟨rfl, rfl⟩, ⟨⟨rfl, rfl⟩, ⟨⟨rfl, rfl⟩, ⟨⟨rfl, rfl⟩, ⟨⟨rfl, rfl⟩, ⟨⟨rfl, rfl⟩, ⟨⟨rfl, rfl⟩, trivial⟩⟩⟩⟩⟩⟩⟩⟩, trivial⟩, rfl⟩
                · replace h := ite_f h h110
                  refine rwp_f (isF h110) ?_
                  refine rwp_skip ?_
                  refine hK103 _ _ _ ?_
                  exact hK98.out _ _ _ k5 (Nat.lt_succ_self k5) ⟨_, _, Settled.refl, _, _, ⟨_, _, h, rfl, rfl⟩, ⟨rfl, ⟨⟨rfl, rfl⟩, ⟨⟨rfl, rfl⟩, ⟨⟨rfl, rfl⟩, ⟨⟨rfl, rfl⟩, ⟨⟨rfl, rfl⟩, ⟨⟨rfl, rfl⟩, ⟨⟨rfl, rfl⟩, ⟨⟨rfl, rfl⟩, ⟨⟨rfl, rfl⟩, trivial⟩⟩⟩⟩⟩⟩⟩⟩⟩, trivial⟩, rfl⟩
              · replace h := ite_f h h102
                refine rwp_f (isF h102) ?_
                refine rwp_exit ?_
                refine hK95 _ _ _ ?_
                exact hK49 _ _ _ ⟨_, _, Settled.refl, _, _, ⟨_, h, rfl, rfl⟩, ⟨rfl, ⟨⟨rfl, rfl⟩, ⟨⟨rfl, rfl⟩, ⟨⟨rfl, rfl⟩, ⟨⟨rfl, rfl⟩, ⟨⟨rfl, rfl⟩, ⟨⟨rfl, rfl⟩, ⟨⟨rfl, rfl⟩, ⟨⟨rfl, rfl⟩, trivial⟩⟩⟩⟩⟩⟩⟩⟩, trivial⟩, rfl⟩
            · refine rwp_region fun K111 hK111 => ?_
              refine st0 4992 rfl (ok (mv (.d (eU64 v96)))) ?_
              refine st0 5056 rfl (ok (geq64 _ (4294967296#64))) ?_
              refine st0 5120 rfl (ok (mv (.d (eB (decide ((4294967296#64).toNat ≤ v96.toNat)))))) ?_
              rcases Bool.eq_false_or_eq_true ((decide ((4294967296#64).toNat ≤ v96.toNat))) with h112 | h112
              · replace h := ite_t h h112
                refine stGN 5184 rfl rfl h112 ?_
                refine stGN 5248 rfl rfl h112 ?_
                refine stGN 5312 rfl rfl h112 ?_
                refine stGN 5376 rfl rfl h112 ?_
                refine stGN 5440 rfl rfl h112 ?_
                refine stGN 5504 rfl rfl h112 ?_
                refine stGN 5568 rfl rfl h112 ?_
                refine stGN 5632 rfl rfl h112 ?_
                refine st0 5696 rfl (ok (pick_t h112 (.d (eB true)) _)) ?_
                refine hK111 _ _ ?_
                simp only [thenK, blockK, keepE, updM, List.filter_cons, List.filter_nil, List.nil_append, List.cons_append, List.map_cons, List.map_nil, envE, Mem.get, Nat.reduceEqDiff, reduceIte, Option.isNone_none, Option.isNone_some, Bool.false_eq_true, List.length_cons, List.length_nil, Nat.reduceAdd, Nat.reduceMul]
                exact hK101 _ _ _ ⟨_, _, Settled.refl, _, _, ⟨_, h, rfl, rfl⟩, ⟨rfl, ⟨⟨rfl, rfl⟩, ⟨⟨rfl, rfl⟩, ⟨⟨rfl, rfl⟩, ⟨⟨rfl, rfl⟩, ⟨⟨rfl, rfl⟩, ⟨⟨rfl, rfl⟩, ⟨⟨rfl, rfl⟩, ⟨⟨rfl, rfl⟩, ⟨⟨rfl, rfl⟩, ⟨⟨rfl, rfl⟩, trivial⟩⟩⟩⟩⟩⟩⟩⟩⟩⟩, trivial⟩, rfl⟩
              · replace h := ite_f h h112
                refine stG (isF h112) ?_
                refine st0 5184 rfl (ok (mv (.d (eU64 v96)))) ?_
                refine stG (isF h112) ?_
                refine st0 5248 rfl (ok (mv (.d (eU64 ((a2 <<< (BitVec.ofInt 64 y23).toNat) &&& (4294967295#64)))))) ?_
                refine stG (isF h112) ?_
                obtain ⟨v113, h114, h⟩ := lett_inv h
                refine st0e 5312 rfl (ok (mul64 _ _)) (congrArg (fun z => PV.d (eU64 z)) h114) ?_
                refine stG (isF h112) ?_
                refine st0 5376 rfl (ok (mv (.d (eU64 v97)))) ?_
                refine stG (isF h112) ?_
                refine st0 5440 rfl (ok (mul64 (4294967296#64) _)) ?_
                refine stG (isF h112) ?_
                refine st0 5504 rfl (ok (mv (.d (eU64 ((a1 <<< (BitVec.ofInt 64 y23).toNat) >>> 32))))) ?_
                refine stG (isF h112) ?_
                obtain ⟨v115, h116, h⟩ := lett_inv h
                refine st0e 5568 rfl (ok (add64 _ _)) (congrArg (fun z => PV.d (eU64 z)) h116) ?_
                refine stG (isF h112) ?_
                refine st0 5632 rfl (ok (gtr64 _ _)) ?_
                refine st0 5696 rfl (ok (pick_f h112 _ (.d (eB (decide (v115.toNat < v113.toNat)))))) ?_
                refine hK111 _ _ ?_
                simp only [thenK, blockK, keepE, updM, List.filter_cons, List.filter_nil, List.nil_append, List.cons_append, List.map_cons, List.map_nil, envE, Mem.get, Nat.reduceEqDiff, reduceIte, Option.isNone_none, Option.isNone_some, Bool.false_eq_true, List.length_cons, List.length_nil, Nat.reduceAdd, Nat.reduceMul]
                exact hK101 _ _ _ ⟨_, _, Settled.refl, _, _, ⟨_, h, rfl, rfl⟩, ⟨rfl, ⟨⟨rfl, rfl⟩, ⟨⟨rfl, rfl⟩, ⟨⟨rfl, rfl⟩, ⟨⟨rfl, rfl⟩, ⟨⟨rfl, rfl⟩, ⟨⟨rfl, rfl⟩, ⟨⟨rfl, rfl⟩, ⟨⟨rfl, rfl⟩, ⟨⟨rfl, rfl⟩, ⟨⟨rfl, rfl⟩, trivial⟩⟩⟩⟩⟩⟩⟩⟩⟩⟩, trivial⟩, rfl⟩

/-- math/bits.Rem64 -/
def bitsRem64H : Hints := ⟨[(0, [0, 1, 2]), (1, [8]), (2, [6])], []⟩
def bitsRem64Rc : RCode :=
  .seq (.region false [⟨some 6, .mv, [.k (.d (.int .u64 0))], none, []⟩] [0, 1, 2]) (.seq (.region false [⟨some 10, .mv, [.t 0], none, []⟩, ⟨some 11, .mv, [.t 2], none, []⟩, ⟨some
  12, .bin .rem, [.t 10, .t 11], none, []⟩, ⟨some 13, .mv, [.t 1], none, []⟩, ⟨some 14, .mv, [.t 2], none, []⟩, ⟨some 15, .call 26 false, [.t 12, .t 13, .t 14], none, []⟩, ⟨some 9,
  .mv, [.t 15], none, []⟩, ⟨some 16, .ext 0, [.t 9], none, []⟩, ⟨some 17, .ext 1, [.t 9], none, []⟩, ⟨some 7, .mv, [.t 16], none, []⟩, ⟨some 8, .mv, [.t 17], none, []⟩] [8]) (.seq
  (.region false [⟨some 18, .mv, [.t 8], none, []⟩, ⟨some 6, .mv, [.t 18], none, []⟩] [6]) .ret))
def bitsRem64Rr : List RR := [.t 6]
theorem bitsRem64C : compFn Try.prog 19 bitsRem64H = some (bitsRem64Rc, bitsRem64Rr, 19) := by kernel_rfl
theorem bitsRem64OK (a0 : BitVec 64) (a1 : BitVec 64) (a2 : BitVec 64) (res : BitVec 64) (h : bitsRem64 a0 a1 a2 = some res) : CallOK Try.prog 19 [.d (eU64 a0), .d (eU64 a1), .d (eU64 a2)] [] (.d (eU64 res)) [] := by
  unfold bitsRem64 at h
  refine callOK bitsRem64C fm rfl ?_
  simp only [initE, initM, nbor, List.map_cons, List.map_nil, Nat.reduceAdd]
  unfold bitsRem64Rc
  refine rwp_seq fun K1 hK1 => ?_
  refine rwp_region fun K2 hK2 => ?_
  refine st0 128 rfl (ok (mv (.d (eU64 (0#64))))) ?_
  refine hK2 _ _ ?_
  simp only [thenK, blockK, keepE, updM, List.filter_cons, List.filter_nil, List.nil_append, List.cons_append, List.map_cons, List.map_nil, envE, Mem.get, Nat.reduceEqDiff, reduceIte, Option.isNone_none, Option.isNone_some, Bool.false_eq_true, List.length_cons, List.length_nil, Nat.reduceAdd, Nat.reduceMul]
  refine hK1 _ _ _ ?_
  refine rwp_seq fun K3 hK3 => ?_
  refine rwp_region fun K4 hK4 => ?_
  refine st0 192 rfl (ok (mv (.d (eU64 a0)))) ?_
  refine st0 256 rfl (ok (mv (.d (eU64 a2)))) ?_
  obtain ⟨h5, h⟩ := asq_inv h
  refine st0 320 rfl (ok (rem64 _ _ h5)) ?_
  refine st0 384 rfl (ok (mv (.d (eU64 a1)))) ?_
  refine st0 448 rfl (ok (mv (.d (eU64 a2)))) ?_
  obtain ⟨y6, h7, h⟩ := bind_inv h
  refine st0 512 rfl (call_ok (v := .tup [.d (eU64 y6.1), .d (eU64 y6.2)]) (u := []) (ar_d (eU64 (a0 % a2)) (ar_d (eU64 a1) (ar_d (eU64 a2) ar_nil))) rfl (bitsDiv64OK (a0 % a2) a1 a2 y6 h7) rfl) ?_
  refine st0 576 rfl (ok (mv (.tup [.d (eU64 y6.1), .d (eU64 y6.2)]))) ?_
  refine st0 640 rfl (ok (extr (v := .d (eU64 y6.1)) rfl rfl)) ?_
  refine st0 704 rfl (ok (extr (v := .d (eU64 y6.2)) rfl rfl)) ?_
  refine st0 768 rfl (ok (mv (.d (eU64 y6.1)))) ?_
  refine st0 832 rfl (ok (mv (.d (eU64 y6.2)))) ?_
  refine hK4 _ _ ?_
  simp only [thenK, blockK, keepE, updM, List.filter_cons, List.filter_nil, List.nil_append, List.cons_append, List.map_cons, List.map_nil, envE, Mem.get, Nat.reduceEqDiff, reduceIte, Option.isNone_none, Option.isNone_some, Bool.false_eq_true, List.length_cons, List.length_nil, Nat.reduceAdd, Nat.reduceMul]
  refine hK3 _ _ _ ?_
  refine rwp_seq fun K8 hK8 => ?_
  refine rwp_region fun K9 hK9 => ?_
  refine st0 896 rfl (ok (mv (.d (eU64 y6.2)))) ?_
  refine st0 960 rfl (ok (mv (.d (eU64 y6.2)))) ?_
  refine hK9 _ _ ?_
  simp only [thenK, blockK, keepE, updM, List.filter_cons, List.filter_nil, List.nil_append, List.cons_append, List.map_cons, List.map_nil, envE, Mem.get, Nat.reduceEqDiff, reduceIte, Option.isNone_none, Option.isNone_some, Bool.false_eq_true, List.length_cons, List.length_nil, Nat.reduceAdd, Nat.reduceMul]
  refine hK8 _ _ _ ?_
  refine rwp_ret ?_
  obtain rfl := Option.some.inj h
  try simp only [thenK, blockK, reduceIte]
  exact end_ok trivial (rs_t (v := .d (eU64 y6.2)) rfl rs_nil) (en_d (to_d _) en_nil) ou_nil (by first | exact eok rfl rfl rfl rfl trivial | (refine eok ?_ ?_ ?_ ?_ ?_ <;> first | rfl | exact trivial | simp [retM, Mem.get, PV.renL, PV.ren, Blk.ren, comps, rhoR, rhoM, appN, PV.refsL, PV.refs, keys, nodupB, Blk.refs, allIn, Blk.bor]))

/-- passkey/exchange.Mul -/
def exchangeMulH : Hints := ⟨[(0, [0, 1]), (1, [5, 6]), (2, [4])], []⟩
def exchangeMulRc : RCode :=
  .seq (.region false [⟨some 4, .mv, [.k (.d (.int .u64 0))], none, []⟩] [0, 1]) (.seq (.region false [⟨some 8, .mv, [.t 0], none, []⟩, ⟨some 9, .mv, [.t 1], none, []⟩, ⟨some 10,
  .call 18 false, [.t 8, .t 9], none, []⟩, ⟨some 7, .mv, [.t 10], none, []⟩, ⟨some 11, .ext 0, [.t 7], none, []⟩, ⟨some 12, .ext 1, [.t 7], none, []⟩, ⟨some 5, .mv, [.t 11], none,
  []⟩, ⟨some 6, .mv, [.t 12], none, []⟩] [5, 6]) (.seq (.region false [⟨some 13, .mv, [.t 5], none, []⟩, ⟨some 14, .mv, [.t 6], none, []⟩, ⟨some 15, .call 19 false, [.t 13, .t 14,
  .k (.d (.int .u64 2305843009213693951))], none, []⟩, ⟨some 4, .mv, [.t 15], none, []⟩] [4]) .ret))
def exchangeMulRr : List RR := [.t 4]
theorem exchangeMulC : compFn Try.prog 9 exchangeMulH = some (exchangeMulRc, exchangeMulRr, 16) := by kernel_rfl
theorem exchangeMulOK (a0 : BitVec 64) (a1 : BitVec 64) (res : BitVec 64) (h : exchangeMul a0 a1 = some res) : CallOK Try.prog 9 [.d (eU64 a0), .d (eU64 a1)] [] (.d (eU64 res)) [] := by
  unfold exchangeMul at h
  refine callOK exchangeMulC fm rfl ?_
  simp only [initE, initM, nbor, List.map_cons, List.map_nil, Nat.reduceAdd]
  unfold exchangeMulRc
  refine rwp_seq fun K1 hK1 => ?_
  refine rwp_region fun K2 hK2 => ?_
  refine st0 128 rfl (ok (mv (.d (eU64 (0#64))))) ?_
  refine hK2 _ _ ?_
  simp only [thenK, blockK, keepE, updM, List.filter_cons, List.filter_nil, List.nil_append, List.cons_append, List.map_cons, List.map_nil, envE, Mem.get, Nat.reduceEqDiff, reduceIte, Option.isNone_none, Option.isNone_some, Bool.false_eq_true, List.length_cons, List.length_nil, Nat.reduceAdd, Nat.reduceMul]
  refine hK1 _ _ _ ?_
  refine rwp_seq fun K3 hK3 => ?_
  refine rwp_region fun K4 hK4 => ?_
  refine st0 192 rfl (ok (mv (.d (eU64 a0)))) ?_
  refine st0 256 rfl (ok (mv (.d (eU64 a1)))) ?_
  obtain ⟨y5, h6, h⟩ := bind_inv h
  refine st0 320 rfl (call_ok (v := .tup [.d (eU64 y5.1), .d (eU64 y5.2)]) (u := []) (ar_d (eU64 a0) (ar_d (eU64 a1) ar_nil)) rfl (bitsMul64OK a0 a1 y5 h6) rfl) ?_
  refine st0 384 rfl (ok (mv (.tup [.d (eU64 y5.1), .d (eU64 y5.2)]))) ?_
  refine st0 448 rfl (ok (extr (v := .d (eU64 y5.1)) rfl rfl)) ?_
  refine st0 512 rfl (ok (extr (v := .d (eU64 y5.2)) rfl rfl)) ?_
  refine st0 576 rfl (ok (mv (.d (eU64 y5.1)))) ?_
  refine st0 640 rfl (ok (mv (.d (eU64 y5.2)))) ?_
  refine hK4 _ _ ?_
  simp only [thenK, blockK, keepE, updM, List.filter_cons, List.filter_nil, List.nil_append, List.cons_append, List.map_cons, List.map_nil, envE, Mem.get, Nat.reduceEqDiff, reduceIte, Option.isNone_none, Option.isNone_some, Bool.false_eq_true, List.length_cons, List.length_nil, Nat.reduceAdd, Nat.reduceMul]
  refine hK3 _ _ _ ?_
  refine rwp_seq fun K7 hK7 => ?_
  refine rwp_region fun K8 hK8 => ?_
  refine st0 704 rfl (ok (mv (.d (eU64 y5.1)))) ?_
  refine st0 768 rfl (ok (mv (.d (eU64 y5.2)))) ?_
  obtain ⟨y9, h10, h⟩ := bind_inv h
  refine st0 832 rfl (call_ok (v := .d (eU64 y9)) (u := []) (ar_d (eU64 y5.1) (ar_d (eU64 y5.2) (ar_d (eU64 (2305843009213693951#64)) ar_nil))) rfl (bitsRem64OK y5.1 y5.2 (2305843009213693951#64) y9 h10) rfl) ?_
  refine st0 896 rfl (ok (mv (.d (eU64 y9)))) ?_
  refine hK8 _ _ ?_
  simp only [thenK, blockK, keepE, updM, List.filter_cons, List.filter_nil, List.nil_append, List.cons_append, List.map_cons, List.map_nil, envE, Mem.get, Nat.reduceEqDiff, reduceIte, Option.isNone_none, Option.isNone_some, Bool.false_eq_true, List.length_cons, List.length_nil, Nat.reduceAdd, Nat.reduceMul]
  refine hK7 _ _ _ ?_
  refine rwp_ret ?_
  obtain rfl := Option.some.inj h
  try simp only [thenK, blockK, reduceIte]
  exact end_ok trivial (rs_t (v := .d (eU64 y9)) rfl rs_nil) (en_d (to_d _) en_nil) ou_nil (by first | exact eok rfl rfl rfl rfl trivial | (refine eok ?_ ?_ ?_ ?_ ?_ <;> first | rfl | exact trivial | simp [retM, Mem.get, PV.renL, PV.ren, Blk.ren, comps, rhoR, rhoM, appN, PV.refsL, PV.refs, keys, nodupB, Blk.refs, allIn, Blk.bor]))

end Go.Proofs.Ty
