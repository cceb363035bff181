/- Each Go function comes to what its plain function says. PRINTED by a program of this session (ty.py). -/
import Derived.Test.YtjojcickhpgaaaaProg
import Derived.Test.YtjojcickhpgaaaaF
import Derived.KernelRfl
set_option linter.unusedVariables false
set_option linter.unusedSimpArgs false
set_option maxHeartbeats 4000000
set_option maxRecDepth 10000
namespace Go.Proofs.Ty
open Go Go.RW Go.Proofs
theorem fm : Try.prog.follows .mixedOrders = true := by kernel_rfl
/-- math/bits.Mul64 -/
def bitsMul64H : Hints := ⟨[(0, [0, 1]), (1, [0, 1, 6]), (2, [0, 1, 6, 7]), (3, [0, 1, 6, 7, 8]), (4, [0, 1, 6, 7, 8, 9]), (5, [0, 1, 6, 7, 8, 9, 10]), (6, [0, 1, 6, 7, 9, 11]), (7, [0, 1, 6, 7, 9, 11, 12]), (8, [0, 1, 6, 7, 9, 12, 13]), (9, [0, 1, 7, 9, 12, 13]), (10, [0, 1, 4]), (11, [4, 5])], []⟩
def bitsMul64Rc : RCode :=
  .seq (.region false [⟨some 4, .mv, [.k (.d (.int .u64 0))], none, []⟩, ⟨some 5, .mv, [.k (.d (.int .u64 0))], none, []⟩] [0, 1]) (.seq (.region false [⟨some 14, .mv, [.t 0], none,
  []⟩, ⟨some 15, .bin .and, [.t 14, .k (.d (.int .u64 4294967295))], none, []⟩, ⟨some 6, .mv, [.t 15], none, []⟩] [0, 1, 6]) (.seq (.region false [⟨some 16, .mv, [.t 0], none, []⟩,
  ⟨some 17, .bin .shr, [.t 16, .k (.d (.int .u64 32))], none, []⟩, ⟨some 7, .mv, [.t 17], none, []⟩] [0, 1, 6, 7]) (.seq (.region false [⟨some 18, .mv, [.t 1], none, []⟩, ⟨some 19,
  .bin .and, [.t 18, .k (.d (.int .u64 4294967295))], none, []⟩, ⟨some 8, .mv, [.t 19], none, []⟩] [0, 1, 6, 7, 8]) (.seq (.region false [⟨some 20, .mv, [.t 1], none, []⟩, ⟨some
  21, .bin .shr, [.t 20, .k (.d (.int .u64 32))], none, []⟩, ⟨some 9, .mv, [.t 21], none, []⟩] [0, 1, 6, 7, 8, 9]) (.seq (.region false [⟨some 22, .mv, [.t 6], none, []⟩, ⟨some 23,
  .mv, [.t 8], none, []⟩, ⟨some 24, .bin .mul, [.t 22, .t 23], none, []⟩, ⟨some 10, .mv, [.t 24], none, []⟩] [0, 1, 6, 7, 8, 9, 10]) (.seq (.region false [⟨some 25, .mv, [.t 7],
  none, []⟩, ⟨some 26, .mv, [.t 8], none, []⟩, ⟨some 27, .bin .mul, [.t 25, .t 26], none, []⟩, ⟨some 28, .mv, [.t 10], none, []⟩, ⟨some 29, .bin .shr, [.t 28, .k (.d (.int .u64
  32))], none, []⟩, ⟨some 30, .bin .add, [.t 27, .t 29], none, []⟩, ⟨some 11, .mv, [.t 30], none, []⟩] [0, 1, 6, 7, 9, 11]) (.seq (.region false [⟨some 31, .mv, [.t 11], none, []⟩,
  ⟨some 32, .bin .and, [.t 31, .k (.d (.int .u64 4294967295))], none, []⟩, ⟨some 12, .mv, [.t 32], none, []⟩] [0, 1, 6, 7, 9, 11, 12]) (.seq (.region false [⟨some 33, .mv, [.t 11],
  none, []⟩, ⟨some 34, .bin .shr, [.t 33, .k (.d (.int .u64 32))], none, []⟩, ⟨some 13, .mv, [.t 34], none, []⟩] [0, 1, 6, 7, 9, 12, 13]) (.seq (.region false [⟨some 35, .mv, [.t
  12], none, []⟩, ⟨some 36, .mv, [.t 6], none, []⟩, ⟨some 37, .mv, [.t 9], none, []⟩, ⟨some 38, .bin .mul, [.t 36, .t 37], none, []⟩, ⟨some 39, .bin .add, [.t 35, .t 38], none,
  []⟩, ⟨some 12, .mv, [.t 39], none, []⟩] [0, 1, 7, 9, 12, 13]) (.seq (.region false [⟨some 40, .mv, [.t 7], none, []⟩, ⟨some 41, .mv, [.t 9], none, []⟩, ⟨some 42, .bin .mul, [.t
  40, .t 41], none, []⟩, ⟨some 43, .mv, [.t 13], none, []⟩, ⟨some 44, .bin .add, [.t 42, .t 43], none, []⟩, ⟨some 45, .mv, [.t 12], none, []⟩, ⟨some 46, .bin .shr, [.t 45, .k (.d
  (.int .u64 32))], none, []⟩, ⟨some 47, .bin .add, [.t 44, .t 46], none, []⟩, ⟨some 4, .mv, [.t 47], none, []⟩] [0, 1, 4]) (.seq (.region false [⟨some 48, .mv, [.t 0], none, []⟩,
  ⟨some 49, .mv, [.t 1], none, []⟩, ⟨some 50, .bin .mul, [.t 48, .t 49], none, []⟩, ⟨some 5, .mv, [.t 50], none, []⟩] [4, 5]) .ret)))))))))))
def bitsMul64Rr : List RR := [.t 4, .t 5]
theorem bitsMul64C : compFn Try.prog 18 bitsMul64H = some (bitsMul64Rc, bitsMul64Rr, 51) := by kernel_rfl
theorem bitsMul64OK (a0 : BitVec 64) (a1 : BitVec 64) (res : (BitVec 64) × (BitVec 64)) (h : bitsMul64 a0 a1 = some res) : CallOK Try.prog 18 [.d (eU64 a0), .d (eU64 a1)] [] (.tup [.d (eU64 res.1), .d (eU64 res.2)]) [] := by
  unfold bitsMul64 at h
  refine callOK bitsMul64C fm rfl ?_
  simp only [initE, initM, nbor, List.map_cons, List.map_nil, Nat.reduceAdd]
  unfold bitsMul64Rc
  refine rwp_seq fun K1 hK1 => ?_
  refine rwp_region fun K2 hK2 => ?_
  refine st0 128 rfl (ok (mv (.d (eU64 (0#64))))) ?_
  refine st0 192 rfl (ok (mv (.d (eU64 (0#64))))) ?_
  refine hK2 _ _ ?_
  simp only [thenK, blockK, keepE, updM, List.filter_cons, List.filter_nil, List.nil_append, List.cons_append, List.map_cons, List.map_nil, envE, Mem.get, Nat.reduceEqDiff, reduceIte, Option.isNone_none, Option.isNone_some, Bool.false_eq_true, List.length_cons, List.length_nil, Nat.reduceAdd, Nat.reduceMul]
  refine hK1 _ _ _ ?_
  refine rwp_seq fun K3 hK3 => ?_
  refine rwp_region fun K4 hK4 => ?_
  refine st0 256 rfl (ok (mv (.d (eU64 a0)))) ?_
  refine st0 320 rfl (ok (and64 _ (4294967295#64))) ?_
  refine st0 384 rfl (ok (mv (.d (eU64 (a0 &&& (4294967295#64)))))) ?_
  refine hK4 _ _ ?_
  simp only [thenK, blockK, keepE, updM, List.filter_cons, List.filter_nil, List.nil_append, List.cons_append, List.map_cons, List.map_nil, envE, Mem.get, Nat.reduceEqDiff, reduceIte, Option.isNone_none, Option.isNone_some, Bool.false_eq_true, List.length_cons, List.length_nil, Nat.reduceAdd, Nat.reduceMul]
  refine hK3 _ _ _ ?_
  refine rwp_seq fun K5 hK5 => ?_
  refine rwp_region fun K6 hK6 => ?_
  refine st0 448 rfl (ok (mv (.d (eU64 a0)))) ?_
  refine st0 512 rfl (ok (shrL64 _ 32 rfl)) ?_
  refine st0 576 rfl (ok (mv (.d (eU64 (a0 >>> 32))))) ?_
  refine hK6 _ _ ?_
  simp only [thenK, blockK, keepE, updM, List.filter_cons, List.filter_nil, List.nil_append, List.cons_append, List.map_cons, List.map_nil, envE, Mem.get, Nat.reduceEqDiff, reduceIte, Option.isNone_none, Option.isNone_some, Bool.false_eq_true, List.length_cons, List.length_nil, Nat.reduceAdd, Nat.reduceMul]
  refine hK5 _ _ _ ?_
  refine rwp_seq fun K7 hK7 => ?_
  refine rwp_region fun K8 hK8 => ?_
  refine st0 640 rfl (ok (mv (.d (eU64 a1)))) ?_
  refine st0 704 rfl (ok (and64 _ (4294967295#64))) ?_
  refine st0 768 rfl (ok (mv (.d (eU64 (a1 &&& (4294967295#64)))))) ?_
  refine hK8 _ _ ?_
  simp only [thenK, blockK, keepE, updM, List.filter_cons, List.filter_nil, List.nil_append, List.cons_append, List.map_cons, List.map_nil, envE, Mem.get, Nat.reduceEqDiff, reduceIte, Option.isNone_none, Option.isNone_some, Bool.false_eq_true, List.length_cons, List.length_nil, Nat.reduceAdd, Nat.reduceMul]
  refine hK7 _ _ _ ?_
  refine rwp_seq fun K9 hK9 => ?_
  refine rwp_region fun K10 hK10 => ?_
  refine st0 832 rfl (ok (mv (.d (eU64 a1)))) ?_
  refine st0 896 rfl (ok (shrL64 _ 32 rfl)) ?_
  refine st0 960 rfl (ok (mv (.d (eU64 (a1 >>> 32))))) ?_
  refine hK10 _ _ ?_
  simp only [thenK, blockK, keepE, updM, List.filter_cons, List.filter_nil, List.nil_append, List.cons_append, List.map_cons, List.map_nil, envE, Mem.get, Nat.reduceEqDiff, reduceIte, Option.isNone_none, Option.isNone_some, Bool.false_eq_true, List.length_cons, List.length_nil, Nat.reduceAdd, Nat.reduceMul]
  refine hK9 _ _ _ ?_
  refine rwp_seq fun K11 hK11 => ?_
  refine rwp_region fun K12 hK12 => ?_
  refine st0 1024 rfl (ok (mv (.d (eU64 (a0 &&& (4294967295#64)))))) ?_
  refine st0 1088 rfl (ok (mv (.d (eU64 (a1 &&& (4294967295#64)))))) ?_
  refine st0 1152 rfl (ok (mul64 _ _)) ?_
  refine st0 1216 rfl (ok (mv (.d (eU64 ((a0 &&& (4294967295#64)) * (a1 &&& (4294967295#64))))))) ?_
  refine hK12 _ _ ?_
  simp only [thenK, blockK, keepE, updM, List.filter_cons, List.filter_nil, List.nil_append, List.cons_append, List.map_cons, List.map_nil, envE, Mem.get, Nat.reduceEqDiff, reduceIte, Option.isNone_none, Option.isNone_some, Bool.false_eq_true, List.length_cons, List.length_nil, Nat.reduceAdd, Nat.reduceMul]
  refine hK11 _ _ _ ?_
  refine rwp_seq fun K13 hK13 => ?_
  refine rwp_region fun K14 hK14 => ?_
  refine st0 1280 rfl (ok (mv (.d (eU64 (a0 >>> 32))))) ?_
  refine st0 1344 rfl (ok (mv (.d (eU64 (a1 &&& (4294967295#64)))))) ?_
  refine st0 1408 rfl (ok (mul64 _ _)) ?_
  refine st0 1472 rfl (ok (mv (.d (eU64 ((a0 &&& (4294967295#64)) * (a1 &&& (4294967295#64))))))) ?_
  obtain ⟨v15, h16, h⟩ := lett_inv h
  refine st0e 1536 rfl (ok (shrL64 _ 32 rfl)) (congrArg (fun z => PV.d (eU64 z)) h16) ?_
  refine st0 1600 rfl (ok (add64 _ _)) ?_
  refine st0 1664 rfl (ok (mv (.d (eU64 (((a0 >>> 32) * (a1 &&& (4294967295#64))) + v15))))) ?_
  refine hK14 _ _ ?_
  simp only [thenK, blockK, keepE, updM, List.filter_cons, List.filter_nil, List.nil_append, List.cons_append, List.map_cons, List.map_nil, envE, Mem.get, Nat.reduceEqDiff, reduceIte, Option.isNone_none, Option.isNone_some, Bool.false_eq_true, List.length_cons, List.length_nil, Nat.reduceAdd, Nat.reduceMul]
  refine hK13 _ _ _ ?_
  refine rwp_seq fun K17 hK17 => ?_
  refine rwp_region fun K18 hK18 => ?_
  refine st0 1728 rfl (ok (mv (.d (eU64 (((a0 >>> 32) * (a1 &&& (4294967295#64))) + v15))))) ?_
  obtain ⟨v19, h20, h⟩ := lett_inv h
  refine st0e 1792 rfl (ok (and64 _ (4294967295#64))) (congrArg (fun z => PV.d (eU64 z)) h20) ?_
  refine st0 1856 rfl (ok (mv (.d (eU64 v19)))) ?_
  refine hK18 _ _ ?_
  simp only [thenK, blockK, keepE, updM, List.filter_cons, List.filter_nil, List.nil_append, List.cons_append, List.map_cons, List.map_nil, envE, Mem.get, Nat.reduceEqDiff, reduceIte, Option.isNone_none, Option.isNone_some, Bool.false_eq_true, List.length_cons, List.length_nil, Nat.reduceAdd, Nat.reduceMul]
  refine hK17 _ _ _ ?_
  refine rwp_seq fun K21 hK21 => ?_
  refine rwp_region fun K22 hK22 => ?_
  refine st0 1920 rfl (ok (mv (.d (eU64 (((a0 >>> 32) * (a1 &&& (4294967295#64))) + v15))))) ?_
  refine st0 1984 rfl (ok (shrL64 _ 32 rfl)) ?_
  refine st0 2048 rfl (ok (mv (.d (eU64 ((((a0 >>> 32) * (a1 &&& (4294967295#64))) + v15) >>> 32))))) ?_
  refine hK22 _ _ ?_
  simp only [thenK, blockK, keepE, updM, List.filter_cons, List.filter_nil, List.nil_append, List.cons_append, List.map_cons, List.map_nil, envE, Mem.get, Nat.reduceEqDiff, reduceIte, Option.isNone_none, Option.isNone_some, Bool.false_eq_true, List.length_cons, List.length_nil, Nat.reduceAdd, Nat.reduceMul]
  refine hK21 _ _ _ ?_
  refine rwp_seq fun K23 hK23 => ?_
  refine rwp_region fun K24 hK24 => ?_
  refine st0 2112 rfl (ok (mv (.d (eU64 v19)))) ?_
  refine st0 2176 rfl (ok (mv (.d (eU64 (a0 &&& (4294967295#64)))))) ?_
  refine st0 2240 rfl (ok (mv (.d (eU64 (a1 >>> 32))))) ?_
  refine st0 2304 rfl (ok (mul64 _ _)) ?_
  refine st0 2368 rfl (ok (add64 _ _)) ?_
  refine st0 2432 rfl (ok (mv (.d (eU64 (v19 + ((a0 &&& (4294967295#64)) * (a1 >>> 32))))))) ?_
  refine hK24 _ _ ?_
  simp only [thenK, blockK, keepE, updM, List.filter_cons, List.filter_nil, List.nil_append, List.cons_append, List.map_cons, List.map_nil, envE, Mem.get, Nat.reduceEqDiff, reduceIte, Option.isNone_none, Option.isNone_some, Bool.false_eq_true, List.length_cons, List.length_nil, Nat.reduceAdd, Nat.reduceMul]
  refine hK23 _ _ _ ?_
  refine rwp_seq fun K25 hK25 => ?_
  refine rwp_region fun K26 hK26 => ?_
  refine st0 2496 rfl (ok (mv (.d (eU64 (a0 >>> 32))))) ?_
  refine st0 2560 rfl (ok (mv (.d (eU64 (a1 >>> 32))))) ?_
  refine st0 2624 rfl (ok (mul64 _ _)) ?_
  refine st0 2688 rfl (ok (mv (.d (eU64 ((((a0 >>> 32) * (a1 &&& (4294967295#64))) + v15) >>> 32))))) ?_
  obtain ⟨v27, h28, h⟩ := lett_inv h
  refine st0e 2752 rfl (ok (add64 _ _)) (congrArg (fun z => PV.d (eU64 z)) h28) ?_
  refine st0 2816 rfl (ok (mv (.d (eU64 (v19 + ((a0 &&& (4294967295#64)) * (a1 >>> 32))))))) ?_
  refine st0 2880 rfl (ok (shrL64 _ 32 rfl)) ?_
  obtain ⟨v29, h30, h⟩ := lett_inv h
  refine st0e 2944 rfl (ok (add64 _ _)) (congrArg (fun z => PV.d (eU64 z)) h30) ?_
  refine st0 3008 rfl (ok (mv (.d (eU64 v29)))) ?_
  refine hK26 _ _ ?_
  simp only [thenK, blockK, keepE, updM, List.filter_cons, List.filter_nil, List.nil_append, List.cons_append, List.map_cons, List.map_nil, envE, Mem.get, Nat.reduceEqDiff, reduceIte, Option.isNone_none, Option.isNone_some, Bool.false_eq_true, List.length_cons, List.length_nil, Nat.reduceAdd, Nat.reduceMul]
  refine hK25 _ _ _ ?_
  refine rwp_seq fun K31 hK31 => ?_
  refine rwp_region fun K32 hK32 => ?_
  refine st0 3072 rfl (ok (mv (.d (eU64 a0)))) ?_
  refine st0 3136 rfl (ok (mv (.d (eU64 a1)))) ?_
  refine st0 3200 rfl (ok (mul64 _ _)) ?_
  refine st0 3264 rfl (ok (mv (.d (eU64 (a0 * a1))))) ?_
  refine hK32 _ _ ?_
  simp only [thenK, blockK, keepE, updM, List.filter_cons, List.filter_nil, List.nil_append, List.cons_append, List.map_cons, List.map_nil, envE, Mem.get, Nat.reduceEqDiff, reduceIte, Option.isNone_none, Option.isNone_some, Bool.false_eq_true, List.length_cons, List.length_nil, Nat.reduceAdd, Nat.reduceMul]
  refine hK31 _ _ _ ?_
  refine rwp_ret ?_
  obtain rfl := Option.some.inj h
  try simp only [thenK, blockK, reduceIte]
  exact end_ok trivial (rs_t (v := .d (eU64 v29)) rfl (rs_t (v := .d (eU64 (a0 * a1))) rfl rs_nil)) (en_d (to_d _) (en_d (to_d _) en_nil)) ou_nil (by first | exact eok rfl rfl rfl rfl trivial | (refine eok ?_ ?_ ?_ ?_ ?_ <;> first | rfl | exact trivial | simp [retM, Mem.get, PV.renL, PV.ren, Blk.ren, comps, rhoR, rhoM, appN, PV.refsL, PV.refs, keys, nodupB, Blk.refs, allIn, Blk.bor]))

/-- math/bits.Len64 -/
def bitsLen64H : Hints := ⟨[(0, [0, 2]), (1, [0, 2, 4]), (2, [0]), (3, [0, 2]), (4, [0, 2, 8]), (5, [0, 2]), (6, [0, 2]), (7, [0, 2, 14]), (8, [0, 2]), (9, [0, 2]), (10, [2])], []⟩
def bitsLen64Rc : RCode :=
  .seq (.region false [⟨some 2, .mv, [.k (.d (.int .i64 0))], none, []⟩] [0, 2]) (.seq (.seq (.region false [⟨some 3, .mv, [.t 0], none, []⟩, ⟨some 4, .bin .geq, [.t 3, .k (.d (.int
  .u64 4294967296))], none, []⟩] [0, 2, 4]) (.cond (.t 4) (.seq (.region false [⟨some 5, .mv, [.t 0], none, []⟩, ⟨some 6, .bin .shr, [.t 5, .k (.d (.int .u64 32))], none, []⟩,
  ⟨some 0, .mv, [.t 6], none, []⟩] [0]) (.region false [⟨some 2, .mv, [.k (.d (.int .i64 32))], none, []⟩] [0, 2])) .skip)) (.seq (.seq (.region false [⟨some 7, .mv, [.t 0], none,
  []⟩, ⟨some 8, .bin .geq, [.t 7, .k (.d (.int .u64 65536))], none, []⟩] [0, 2, 8]) (.cond (.t 8) (.seq (.region false [⟨some 9, .mv, [.t 0], none, []⟩, ⟨some 10, .bin .shr, [.t 9,
  .k (.d (.int .u64 16))], none, []⟩, ⟨some 0, .mv, [.t 10], none, []⟩] [0, 2]) (.region false [⟨some 11, .mv, [.t 2], none, []⟩, ⟨some 12, .bin .add, [.t 11, .k (.d (.int .i64
  16))], none, []⟩, ⟨some 2, .mv, [.t 12], none, []⟩] [0, 2])) .skip)) (.seq (.seq (.region false [⟨some 13, .mv, [.t 0], none, []⟩, ⟨some 14, .bin .geq, [.t 13, .k (.d (.int .u64
  256))], none, []⟩] [0, 2, 14]) (.cond (.t 14) (.seq (.region false [⟨some 15, .mv, [.t 0], none, []⟩, ⟨some 16, .bin .shr, [.t 15, .k (.d (.int .u64 8))], none, []⟩, ⟨some 0,
  .mv, [.t 16], none, []⟩] [0, 2]) (.region false [⟨some 17, .mv, [.t 2], none, []⟩, ⟨some 18, .bin .add, [.t 17, .k (.d (.int .i64 8))], none, []⟩, ⟨some 2, .mv, [.t 18], none,
  []⟩] [0, 2])) .skip)) (.seq (.region false [⟨some 19, .mv, [.t 2], none, []⟩, ⟨some 20, .mv, [.t 0], none, []⟩, ⟨some 21, .cvt .u8, [.t 20], none, []⟩, ⟨some 22, .sx, [.k (.d
  (.str ⟨#[0, 1, 2, 2, 3, 3, 3, 3, 4, 4, 4, 4, 4, 4, 4, 4, 5, 5, 5, 5, 5, 5, 5, 5, 5, 5, 5, 5, 5, 5, 5, 5, 6, 6, 6, 6, 6, 6, 6, 6, 6, 6, 6, 6, 6, 6, 6, 6, 6, 6, 6, 6, 6, 6, 6, 6,
  6, 6, 6, 6, 6, 6, 6, 6, 7, 7, 7, 7, 7, 7, 7, 7, 7, 7, 7, 7, 7, 7, 7, 7, 7, 7, 7, 7, 7, 7, 7, 7, 7, 7, 7, 7, 7, 7, 7, 7, 7, 7, 7, 7, 7, 7, 7, 7, 7, 7, 7, 7, 7, 7, 7, 7, 7, 7, 7,
  7, 7, 7, 7, 7, 7, 7, 7, 7, 7, 7, 7, 7, 8, 8, 8, 8, 8, 8, 8, 8, 8, 8, 8, 8, 8, 8, 8, 8, 8, 8, 8, 8, 8, 8, 8, 8, 8, 8, 8, 8, 8, 8, 8, 8, 8, 8, 8, 8, 8, 8, 8, 8, 8, 8, 8, 8, 8, 8,
  8, 8, 8, 8, 8, 8, 8, 8, 8, 8, 8, 8, 8, 8, 8, 8, 8, 8, 8, 8, 8, 8, 8, 8, 8, 8, 8, 8, 8, 8, 8, 8, 8, 8, 8, 8, 8, 8, 8, 8, 8, 8, 8, 8, 8, 8, 8, 8, 8, 8, 8, 8, 8, 8, 8, 8, 8, 8, 8,
  8, 8, 8, 8, 8, 8, 8, 8, 8, 8, 8, 8, 8, 8, 8, 8, 8, 8, 8, 8, 8, 8, 8]⟩)), .t 21], none, []⟩, ⟨some 23, .cvt .i64, [.t 22], none, []⟩, ⟨some 24, .bin .add, [.t 19, .t 23], none,
  []⟩, ⟨some 2, .mv, [.t 24], none, []⟩] [2]) .ret))))
def bitsLen64Rr : List RR := [.t 2]
theorem bitsLen64C : compFn Try.prog 34 bitsLen64H = some (bitsLen64Rc, bitsLen64Rr, 25) := by kernel_rfl
theorem bitsLen64OK (a0 : BitVec 64) (res : Int) (h : bitsLen64 a0 = some res) : CallOK Try.prog 34 [.d (eU64 a0)] [] (.d (eI res)) [] := by
  unfold bitsLen64 at h
  refine callOK bitsLen64C fm rfl ?_
  simp only [initE, initM, nbor, List.map_cons, List.map_nil, Nat.reduceAdd]
  unfold bitsLen64Rc
  refine rwp_seq fun K1 hK1 => ?_
  refine rwp_region fun K2 hK2 => ?_
  refine st0 128 rfl (ok (mv (.d (eI (0 : Int))))) ?_
  refine hK2 _ _ ?_
  simp only [thenK, blockK, keepE, updM, List.filter_cons, List.filter_nil, List.nil_append, List.cons_append, List.map_cons, List.map_nil, envE, Mem.get, Nat.reduceEqDiff, reduceIte, Option.isNone_none, Option.isNone_some, Bool.false_eq_true, List.length_cons, List.length_nil, Nat.reduceAdd, Nat.reduceMul]
  refine hK1 _ _ _ ?_
  refine rwp_join ([], []) 576 (fun env mem => ∃ (v3 : BitVec 64) (v4 : Int), bitsLen64J1 v3 v4 = some res ∧ env = [(0, .d (eU64 v3)), (2, .d (eI v4))] ∧ mem = []) (fun _ _ hI => ?_) (fun K5 hK5 => ?_)
  · obtain ⟨v3, v4, h, rfl, rfl⟩ := hI
    unfold bitsLen64J1 at h
    refine rwp_join ([], []) 1152 (fun env mem => ∃ (v6 : BitVec 64) (v7 : Int), bitsLen64J2 v6 v7 = some res ∧ env = [(0, .d (eU64 v6)), (2, .d (eI v7))] ∧ mem = []) (fun _ _ hI => ?_) (fun K8 hK8 => ?_)
    · obtain ⟨v6, v7, h, rfl, rfl⟩ := hI
      unfold bitsLen64J2 at h
      refine rwp_join ([], []) 1728 (fun env mem => ∃ (v9 : BitVec 64) (v10 : Int), bitsLen64J3 v9 v10 = some res ∧ env = [(0, .d (eU64 v9)), (2, .d (eI v10))] ∧ mem = []) (fun _ _ hI => ?_) (fun K11 hK11 => ?_)
      · obtain ⟨v9, v10, h, rfl, rfl⟩ := hI
        unfold bitsLen64J3 at h
        refine rwp_seq fun K12 hK12 => ?_
        refine rwp_region fun K13 hK13 => ?_
        refine st0 1792 rfl (ok (mv (.d (eI v10)))) ?_
        refine st0 1856 rfl (ok (mv (.d (eU64 v9)))) ?_
        refine st0 1920 rfl (ok (cvt64_8 _)) ?_
        obtain ⟨h14, h⟩ := asq_inv h
        refine st0 1984 rfl (ok (idxS ([0#8, 1#8, 2#8, 2#8, 3#8, 3#8, 3#8, 3#8, 4#8, 4#8, 4#8, 4#8, 4#8, 4#8, 4#8, 4#8, 5#8, 5#8, 5#8, 5#8, 5#8, 5#8, 5#8, 5#8, 5#8, 5#8, 5#8, 5#8, 5#8, 5#8, 5#8, 5#8, 6#8, 6#8, 6#8, 6#8, 6#8, 6#8, 6#8, 6#8, 6#8, 6#8, 6#8, 6#8, 6#8, 6#8, 6#8, 6#8, 6#8, 6#8, 6#8, 6#8, 6#8, 6#8, 6#8, 6#8, 6#8, 6#8, 6#8, 6#8, 6#8, 6#8, 6#8, 6#8, 7#8, 7#8, 7#8, 7#8, 7#8, 7#8, 7#8, 7#8, 7#8, 7#8, 7#8, 7#8, 7#8, 7#8, 7#8, 7#8, 7#8, 7#8, 7#8, 7#8, 7#8, 7#8, 7#8, 7#8, 7#8, 7#8, 7#8, 7#8, 7#8, 7#8, 7#8, 7#8, 7#8, 7#8, 7#8, 7#8, 7#8, 7#8, 7#8, 7#8, 7#8, 7#8, 7#8, 7#8, 7#8, 7#8, 7#8, 7#8, 7#8, 7#8, 7#8, 7#8, 7#8, 7#8, 7#8, 7#8, 7#8, 7#8, 7#8, 7#8, 7#8, 7#8, 7#8, 7#8, 8#8, 8#8, 8#8, 8#8, 8#8, 8#8, 8#8, 8#8, 8#8, 8#8, 8#8, 8#8, 8#8, 8#8, 8#8, 8#8, 8#8, 8#8, 8#8, 8#8, 8#8, 8#8, 8#8, 8#8, 8#8, 8#8, 8#8, 8#8, 8#8, 8#8, 8#8, 8#8, 8#8, 8#8, 8#8, 8#8, 8#8, 8#8, 8#8, 8#8, 8#8, 8#8, 8#8, 8#8, 8#8, 8#8, 8#8, 8#8, 8#8, 8#8, 8#8, 8#8, 8#8, 8#8, 8#8, 8#8, 8#8, 8#8, 8#8, 8#8, 8#8, 8#8, 8#8, 8#8, 8#8, 8#8, 8#8, 8#8, 8#8, 8#8, 8#8, 8#8, 8#8, 8#8, 8#8, 8#8, 8#8, 8#8, 8#8, 8#8, 8#8, 8#8, 8#8, 8#8, 8#8, 8#8, 8#8, 8#8, 8#8, 8#8, 8#8, 8#8, 8#8, 8#8, 8#8, 8#8, 8#8, 8#8, 8#8, 8#8, 8#8, 8#8, 8#8, 8#8, 8#8, 8#8, 8#8, 8#8, 8#8, 8#8, 8#8, 8#8, 8#8, 8#8, 8#8, 8#8, 8#8, 8#8, 8#8, 8#8, 8#8, 8#8, 8#8, 8#8, 8#8, 8#8, 8#8, 8#8] : List (BitVec 8)) h14)) ?_
        obtain ⟨v15, h16, h⟩ := lett_inv h
        refine st0e 2048 rfl (ok (toI8 _)) (congrArg (fun z => PV.d (eI z)) h16) ?_
        refine st0 2112 rfl (ok (addI _ _)) ?_
        refine st0 2176 rfl (ok (mv (.d (eI (w64 (v10 + v15)))))) ?_
        refine hK13 _ _ ?_
        simp only [thenK, blockK, keepE, updM, List.filter_cons, List.filter_nil, List.nil_append, List.cons_append, List.map_cons, List.map_nil, envE, Mem.get, Nat.reduceEqDiff, reduceIte, Option.isNone_none, Option.isNone_some, Bool.false_eq_true, List.length_cons, List.length_nil, Nat.reduceAdd, Nat.reduceMul]
        refine hK12 _ _ _ ?_
        refine rwp_ret ?_
        obtain rfl := Option.some.inj h
        try simp only [thenK, blockK, reduceIte]
        exact end_ok trivial (rs_t (v := .d (eI (w64 (v10 + v15)))) rfl rs_nil) (en_d (to_d _) en_nil) ou_nil (by first | exact eok rfl rfl rfl rfl trivial | (refine eok ?_ ?_ ?_ ?_ ?_ <;> first | rfl | exact trivial | simp [retM, Mem.get, PV.renL, PV.ren, Blk.ren, comps, rhoR, rhoM, appN, PV.refsL, PV.refs, keys, nodupB, Blk.refs, allIn, Blk.bor]))
      · refine rwp_seq fun K17 hK17 => ?_
        refine rwp_region fun K18 hK18 => ?_
        refine st0 1216 rfl (ok (mv (.d (eU64 v6)))) ?_
        refine st0 1280 rfl (ok (geq64 _ (256#64))) ?_
        refine hK18 _ _ ?_
        simp only [thenK, blockK, keepE, updM, List.filter_cons, List.filter_nil, List.nil_append, List.cons_append, List.map_cons, List.map_nil, envE, Mem.get, Nat.reduceEqDiff, reduceIte, Option.isNone_none, Option.isNone_some, Bool.false_eq_true, List.length_cons, List.length_nil, Nat.reduceAdd, Nat.reduceMul]
        refine hK17 _ _ _ ?_
        rcases Bool.eq_false_or_eq_true ((decide ((256#64).toNat ≤ v6.toNat))) with h19 | h19
        · replace h := ite_t h h19
          refine rwp_t (isT h19) ?_
          refine rwp_seq fun K20 hK20 => ?_
          refine rwp_region fun K21 hK21 => ?_
          refine st0 1344 rfl (ok (mv (.d (eU64 v6)))) ?_
          refine st0 1408 rfl (ok (shrL64 _ 8 rfl)) ?_
          refine st0 1472 rfl (ok (mv (.d (eU64 (v6 >>> 8))))) ?_
          refine hK21 _ _ ?_
          simp only [thenK, blockK, keepE, updM, List.filter_cons, List.filter_nil, List.nil_append, List.cons_append, List.map_cons, List.map_nil, envE, Mem.get, Nat.reduceEqDiff, reduceIte, Option.isNone_none, Option.isNone_some, Bool.false_eq_true, List.length_cons, List.length_nil, Nat.reduceAdd, Nat.reduceMul]
          refine hK20 _ _ _ ?_
          refine rwp_region fun K22 hK22 => ?_
          refine st0 1536 rfl (ok (mv (.d (eI v7)))) ?_
          refine st0 1600 rfl (ok (addI _ (8 : Int))) ?_
          refine st0 1664 rfl (ok (mv (.d (eI (w64 (v7 + (8 : Int))))))) ?_
          refine hK22 _ _ ?_
          simp only [thenK, blockK, keepE, updM, List.filter_cons, List.filter_nil, List.nil_append, List.cons_append, List.map_cons, List.map_nil, envE, Mem.get, Nat.reduceEqDiff, reduceIte, Option.isNone_none, Option.isNone_some, Bool.false_eq_true, List.length_cons, List.length_nil, Nat.reduceAdd, Nat.reduceMul]
          exact hK11 _ _ _ ⟨_, _, Settled.refl, _, _, ⟨_, _, h, rfl, rfl⟩, ⟨rfl, ⟨⟨rfl, rfl⟩, ⟨⟨rfl, rfl⟩, trivial⟩⟩, trivial⟩, rfl⟩
        · replace h := ite_f h h19
          refine rwp_f (isF h19) ?_
          refine rwp_skip ?_
          exact hK11 _ _ _ ⟨_, _, Settled.refl, _, _, ⟨_, _, h, rfl, rfl⟩, ⟨rfl, ⟨⟨rfl, rfl⟩, ⟨⟨rfl, rfl⟩, trivial⟩⟩, trivial⟩, rfl⟩
    · refine rwp_seq fun K23 hK23 => ?_
      refine rwp_region fun K24 hK24 => ?_
      refine st0 640 rfl (ok (mv (.d (eU64 v3)))) ?_
      refine st0 704 rfl (ok (geq64 _ (65536#64))) ?_
      refine hK24 _ _ ?_
      simp only [thenK, blockK, keepE, updM, List.filter_cons, List.filter_nil, List.nil_append, List.cons_append, List.map_cons, List.map_nil, envE, Mem.get, Nat.reduceEqDiff, reduceIte, Option.isNone_none, Option.isNone_some, Bool.false_eq_true, List.length_cons, List.length_nil, Nat.reduceAdd, Nat.reduceMul]
      refine hK23 _ _ _ ?_
      rcases Bool.eq_false_or_eq_true ((decide ((65536#64).toNat ≤ v3.toNat))) with h25 | h25
      · replace h := ite_t h h25
        refine rwp_t (isT h25) ?_
        refine rwp_seq fun K26 hK26 => ?_
        refine rwp_region fun K27 hK27 => ?_
        refine st0 768 rfl (ok (mv (.d (eU64 v3)))) ?_
        refine st0 832 rfl (ok (shrL64 _ 16 rfl)) ?_
        refine st0 896 rfl (ok (mv (.d (eU64 (v3 >>> 16))))) ?_
        refine hK27 _ _ ?_
        simp only [thenK, blockK, keepE, updM, List.filter_cons, List.filter_nil, List.nil_append, List.cons_append, List.map_cons, List.map_nil, envE, Mem.get, Nat.reduceEqDiff, reduceIte, Option.isNone_none, Option.isNone_some, Bool.false_eq_true, List.length_cons, List.length_nil, Nat.reduceAdd, Nat.reduceMul]
        refine hK26 _ _ _ ?_
        refine rwp_region fun K28 hK28 => ?_
        refine st0 960 rfl (ok (mv (.d (eI v4)))) ?_
        refine st0 1024 rfl (ok (addI _ (16 : Int))) ?_
        refine st0 1088 rfl (ok (mv (.d (eI (w64 (v4 + (16 : Int))))))) ?_
        refine hK28 _ _ ?_
        simp only [thenK, blockK, keepE, updM, List.filter_cons, List.filter_nil, List.nil_append, List.cons_append, List.map_cons, List.map_nil, envE, Mem.get, Nat.reduceEqDiff, reduceIte, Option.isNone_none, Option.isNone_some, Bool.false_eq_true, List.length_cons, List.length_nil, Nat.reduceAdd, Nat.reduceMul]
        exact hK8 _ _ _ ⟨_, _, Settled.refl, _, _, ⟨_, _, h, rfl, rfl⟩, ⟨rfl, ⟨⟨rfl, rfl⟩, ⟨⟨rfl, rfl⟩, trivial⟩⟩, trivial⟩, rfl⟩
      · replace h := ite_f h h25
        refine rwp_f (isF h25) ?_
        refine rwp_skip ?_
        exact hK8 _ _ _ ⟨_, _, Settled.refl, _, _, ⟨_, _, h, rfl, rfl⟩, ⟨rfl, ⟨⟨rfl, rfl⟩, ⟨⟨rfl, rfl⟩, trivial⟩⟩, trivial⟩, rfl⟩
  · refine rwp_seq fun K29 hK29 => ?_
    refine rwp_region fun K30 hK30 => ?_
    refine st0 192 rfl (ok (mv (.d (eU64 a0)))) ?_
    refine st0 256 rfl (ok (geq64 _ (4294967296#64))) ?_
    refine hK30 _ _ ?_
    simp only [thenK, blockK, keepE, updM, List.filter_cons, List.filter_nil, List.nil_append, List.cons_append, List.map_cons, List.map_nil, envE, Mem.get, Nat.reduceEqDiff, reduceIte, Option.isNone_none, Option.isNone_some, Bool.false_eq_true, List.length_cons, List.length_nil, Nat.reduceAdd, Nat.reduceMul]
    refine hK29 _ _ _ ?_
    rcases Bool.eq_false_or_eq_true ((decide ((4294967296#64).toNat ≤ a0.toNat))) with h31 | h31
    · replace h := ite_t h h31
      refine rwp_t (isT h31) ?_
      refine rwp_seq fun K32 hK32 => ?_
      refine rwp_region fun K33 hK33 => ?_
      refine st0 320 rfl (ok (mv (.d (eU64 a0)))) ?_
      refine st0 384 rfl (ok (shrL64 _ 32 rfl)) ?_
      refine st0 448 rfl (ok (mv (.d (eU64 (a0 >>> 32))))) ?_
      refine hK33 _ _ ?_
      simp only [thenK, blockK, keepE, updM, List.filter_cons, List.filter_nil, List.nil_append, List.cons_append, List.map_cons, List.map_nil, envE, Mem.get, Nat.reduceEqDiff, reduceIte, Option.isNone_none, Option.isNone_some, Bool.false_eq_true, List.length_cons, List.length_nil, Nat.reduceAdd, Nat.reduceMul]
      refine hK32 _ _ _ ?_
      refine rwp_region fun K34 hK34 => ?_
      refine st0 512 rfl (ok (mv (.d (eI (32 : Int))))) ?_
      refine hK34 _ _ ?_
      simp only [thenK, blockK, keepE, updM, List.filter_cons, List.filter_nil, List.nil_append, List.cons_append, List.map_cons, List.map_nil, envE, Mem.get, Nat.reduceEqDiff, reduceIte, Option.isNone_none, Option.isNone_some, Bool.false_eq_true, List.length_cons, List.length_nil, Nat.reduceAdd, Nat.reduceMul]
      exact hK5 _ _ _ ⟨_, _, Settled.refl, _, _, ⟨_, _, h, rfl, rfl⟩, ⟨rfl, ⟨⟨rfl, rfl⟩, ⟨⟨rfl, rfl⟩, trivial⟩⟩, trivial⟩, rfl⟩
    · replace h := ite_f h h31
      refine rwp_f (isF h31) ?_
      refine rwp_skip ?_
      exact hK5 _ _ _ ⟨_, _, Settled.refl, _, _, ⟨_, _, h, rfl, rfl⟩, ⟨rfl, ⟨⟨rfl, rfl⟩, ⟨⟨rfl, rfl⟩, trivial⟩⟩, trivial⟩, rfl⟩

/-- math/bits.LeadingZeros64 -/
def bitsLeadingZeros64H : Hints := ⟨[(0, [0]), (1, [2])], []⟩
def bitsLeadingZeros64Rc : RCode :=
  .seq (.region false [⟨some 2, .mv, [.k (.d (.int .i64 0))], none, []⟩] [0]) (.seq (.region false [⟨some 3, .mv, [.t 0], none, []⟩, ⟨some 4, .call 34 false, [.t 3], none, []⟩, ⟨some
  5, .bin .sub, [.k (.d (.int .i64 64)), .t 4], none, []⟩, ⟨some 2, .mv, [.t 5], none, []⟩] [2]) .ret)
def bitsLeadingZeros64Rr : List RR := [.t 2]
theorem bitsLeadingZeros64C : compFn Try.prog 29 bitsLeadingZeros64H = some (bitsLeadingZeros64Rc, bitsLeadingZeros64Rr, 6) := by kernel_rfl
theorem bitsLeadingZeros64OK (a0 : BitVec 64) (res : Int) (h : bitsLeadingZeros64 a0 = some res) : CallOK Try.prog 29 [.d (eU64 a0)] [] (.d (eI res)) [] := by
  unfold bitsLeadingZeros64 at h
  refine callOK bitsLeadingZeros64C fm rfl ?_
  simp only [initE, initM, nbor, List.map_cons, List.map_nil, Nat.reduceAdd]
  unfold bitsLeadingZeros64Rc
  refine rwp_seq fun K1 hK1 => ?_
  refine rwp_region fun K2 hK2 => ?_
  refine st0 128 rfl (ok (mv (.d (eI (0 : Int))))) ?_
  refine hK2 _ _ ?_
  simp only [thenK, blockK, keepE, updM, List.filter_cons, List.filter_nil, List.nil_append, List.cons_append, List.map_cons, List.map_nil, envE, Mem.get, Nat.reduceEqDiff, reduceIte, Option.isNone_none, Option.isNone_some, Bool.false_eq_true, List.length_cons, List.length_nil, Nat.reduceAdd, Nat.reduceMul]
  refine hK1 _ _ _ ?_
  refine rwp_seq fun K3 hK3 => ?_
  refine rwp_region fun K4 hK4 => ?_
  refine st0 192 rfl (ok (mv (.d (eU64 a0)))) ?_
  obtain ⟨y5, h6, h⟩ := bind_inv h
  refine st0 256 rfl (call_ok (v := .d (eI y5)) (u := []) (ar_d (eU64 a0) ar_nil) rfl (bitsLen64OK a0 y5 h6) rfl) ?_
  refine st0 320 rfl (ok (subI (64 : Int) _)) ?_
  refine st0 384 rfl (ok (mv (.d (eI (w64 ((64 : Int) - y5)))))) ?_
  refine hK4 _ _ ?_
  simp only [thenK, blockK, keepE, updM, List.filter_cons, List.filter_nil, List.nil_append, List.cons_append, List.map_cons, List.map_nil, envE, Mem.get, Nat.reduceEqDiff, reduceIte, Option.isNone_none, Option.isNone_some, Bool.false_eq_true, List.length_cons, List.length_nil, Nat.reduceAdd, Nat.reduceMul]
  refine hK3 _ _ _ ?_
  refine rwp_ret ?_
  obtain rfl := Option.some.inj h
  try simp only [thenK, blockK, reduceIte]
  exact end_ok trivial (rs_t (v := .d (eI (w64 ((64 : Int) - y5)))) rfl rs_nil) (en_d (to_d _) en_nil) ou_nil (by first | exact eok rfl rfl rfl rfl trivial | (refine eok ?_ ?_ ?_ ?_ ?_ <;> first | rfl | exact trivial | simp [retM, Mem.get, PV.renL, PV.ren, Blk.ren, comps, rhoR, rhoM, appN, PV.refsL, PV.refs, keys, nodupB, Blk.refs, allIn, Blk.bor]))

end Go.Proofs.Ty
