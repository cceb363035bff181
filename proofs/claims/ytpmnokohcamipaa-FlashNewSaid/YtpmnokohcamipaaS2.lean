/- Each Go function comes to what its plain function says. PRINTED by a program of this session (ty.py). -/
import Derived.Test.YtpmnokohcamipaaS1
set_option linter.unusedVariables false
set_option linter.unusedSimpArgs false
set_option maxHeartbeats 4000000
set_option maxRecDepth 10000
namespace Go.Proofs.Ty
open Go Go.RW Go.Proofs
/-- passkey/passkeylaw7.awake -/
def passkeylaw7awakeH : Hints := ⟨[(0, []), (1, [1, 2]), (2, [1, 2, 3, 4, 5]), (3, [1, 2, 4, 5, 6, 8]), (4, [1, 2, 4, 5, 8, 9, 10]), (5, [0])], []⟩
def passkeylaw7awakeRc : RCode :=
  .seq (.region false [⟨some 0, .mv, [.k (.d (.bool false))], none, []⟩] []) (.seq (.region false [⟨some 12, .call 10 true, [.k (.d (.int .i64 512)), .k (.d (.int .i64 2))], none,
  []⟩, ⟨some 11, .mv, [.t 12], none, []⟩, ⟨some 13, .ext 0, [.t 11], none, []⟩, ⟨some 14, .ext 1, [.t 11], none, []⟩, ⟨some 1, .alloc [.d (.int .i64 0), .nil 1], [], none, []⟩,
  ⟨none, .store 2, [.t 1, .t 13], none, []⟩, ⟨some 2, .mv, [.t 14], none, []⟩] [1, 2]) (.seq (.region false [⟨some 16, .load 2 true, [.t 1], none, []⟩, ⟨some 17, .bslice 1 false 1
  [.d (.int .u8 0)] [0], [.k (.d (.int .u8 15))], none, []⟩, ⟨some 18, .call 20 true, [.t 16, .k (.d (.int .i64 1)), .k (.d (.int .i64 3)), .t 17, .k (.d (.int .i64 (-1)))], none,
  []⟩, ⟨some 15, .mv, [.t 18], none, []⟩, ⟨some 19, .ext 0, [.t 15], none, []⟩, ⟨some 20, .ext 1, [.t 15], none, []⟩, ⟨some 21, .ext 2, [.t 15], none, []⟩, ⟨some 3, .alloc [.d
  (.int .i64 0), .nil 1], [], none, []⟩, ⟨none, .store 2, [.t 3, .t 19], none, []⟩, ⟨some 4, .mv, [.t 20], none, []⟩, ⟨some 5, .mv, [.t 21], none, []⟩] [1, 2, 3, 4, 5]) (.seq
  (.region false [⟨some 23, .load 2 true, [.t 3], none, []⟩, ⟨some 24, .bslice 1 false 1 [.d (.int .u8 0)] [0], [.k (.d (.int .u8 240))], none, []⟩, ⟨some 25, .call 20 true, [.t
  23, .k (.d (.int .i64 1)), .k (.d (.int .i64 3)), .t 24, .k (.d (.int .i64 (-1)))], none, []⟩, ⟨some 22, .mv, [.t 25], none, []⟩, ⟨some 26, .ext 0, [.t 22], none, []⟩, ⟨some 27,
  .ext 1, [.t 22], none, []⟩, ⟨some 28, .ext 2, [.t 22], none, []⟩, ⟨some 6, .alloc [.d (.int .i64 0), .nil 1], [], none, []⟩, ⟨none, .store 2, [.t 6, .t 26], none, []⟩, ⟨some 7,
  .mv, [.t 27], none, []⟩, ⟨some 8, .mv, [.t 28], none, []⟩] [1, 2, 4, 5, 6, 8]) (.seq (.region false [⟨some 30, .load 2 true, [.t 6], none, []⟩, ⟨some 31, .call 17 true, [.t 30,
  .k (.d (.int .i64 1)), .k (.d (.int .i64 3)), .k (.d (.int .i64 1))], none, []⟩, ⟨some 29, .mv, [.t 31], none, []⟩, ⟨some 32, .ext 0, [.t 29], none, []⟩, ⟨some 33, .ext 1, [.t
  29], none, []⟩, ⟨some 9, .mv, [.t 32], none, []⟩, ⟨some 10, .mv, [.t 33], none, []⟩] [1, 2, 4, 5, 8, 9, 10]) (.seq (.region false [⟨some 34, .mv, [.t 2], none, []⟩, ⟨some 35,
  .bin .eql, [.t 34, .k (.d (.int .i64 0))], none, []⟩, ⟨some 36, .mv, [.t 35], none, []⟩, ⟨some 37, .mv, [.t 5], some (36, true), []⟩, ⟨some 38, .bin .eql, [.t 37, .k (.d (.int
  .i64 0))], some (36, true), []⟩, ⟨some 39, .pick, [.t 36, .t 38, .k (.d (.bool false))], none, []⟩, ⟨some 40, .mv, [.t 39], none, []⟩, ⟨some 41, .mv, [.t 8], some (40, true),
  []⟩, ⟨some 42, .bin .eql, [.t 41, .k (.d (.int .i64 0))], some (40, true), []⟩, ⟨some 43, .pick, [.t 40, .t 42, .k (.d (.bool false))], none, []⟩, ⟨some 44, .mv, [.t 43], none,
  []⟩, ⟨some 45, .mv, [.t 10], some (44, true), []⟩, ⟨some 46, .bin .eql, [.t 45, .k (.d (.int .i64 0))], some (44, true), []⟩, ⟨some 47, .pick, [.t 44, .t 46, .k (.d (.bool
  false))], none, []⟩, ⟨some 48, .mv, [.t 47], none, []⟩, ⟨some 49, .fa 1, [.t 1], some (48, true), []⟩, ⟨some 50, .load 1 false, [.t 49], some (48, true), []⟩, ⟨some 51, .len, [.t
  50], some (48, true), []⟩, ⟨some 52, .bin .eql, [.t 51, .k (.d (.int .i64 1024))], some (48, true), []⟩, ⟨some 53, .pick, [.t 48, .t 52, .k (.d (.bool false))], none, []⟩, ⟨some
  54, .mv, [.t 53], none, []⟩, ⟨some 55, .mv, [.t 4], some (54, true), []⟩, ⟨some 56, .bin .eql, [.t 55, .k (.d (.int .i64 (-1)))], some (54, true), []⟩, ⟨some 57, .pick, [.t 54,
  .t 56, .k (.d (.bool false))], none, []⟩, ⟨some 58, .mv, [.t 57], none, []⟩, ⟨some 59, .mv, [.t 9], some (58, true), []⟩, ⟨some 60, .b2s, [.t 59], some (58, true), []⟩, ⟨some 61,
  .bin .eql, [.t 60, .k (.d (.str ⟨#[0]⟩))], some (58, true), []⟩, ⟨some 62, .pick, [.t 58, .t 61, .k (.d (.bool false))], none, []⟩, ⟨some 0, .mv, [.t 62], none, []⟩] [0])
  .ret)))))
def passkeylaw7awakeRr : List RR := [.t 0]
theorem passkeylaw7awakeC : compFn Try.prog 9 passkeylaw7awakeH = some (passkeylaw7awakeRc, passkeylaw7awakeRr, 63) := by kernel_rfl
theorem passkeylaw7awakeOK  (res : Bool) (h : passkeylaw7awake  = some res) : CallOK Try.prog 9 [] [] (.d (eB res)) [] := by
  unfold passkeylaw7awake at h
  refine callOK passkeylaw7awakeC fm rfl ?_
  simp only [initE, initM, nbor, List.map_cons, List.map_nil, Nat.reduceAdd]
  unfold passkeylaw7awakeRc
  refine rwp_seq fun K1 hK1 => ?_
  refine rwp_region fun K2 hK2 => ?_
  refine st0 128 rfl (ok (mv (.d (eB false)))) ?_
  refine hK2 _ _ ?_
  simp only [thenK, blockK, keepE, updM, List.filter_cons, List.filter_nil, List.nil_append, List.cons_append, List.map_cons, List.map_nil, envE, Mem.get, Nat.reduceEqDiff, reduceIte, Option.isNone_none, Option.isNone_some, Bool.false_eq_true, List.length_cons, List.length_nil, Nat.reduceAdd, Nat.reduceMul]
  refine hK1 _ _ _ ?_
  refine rwp_seq fun K3 hK3 => ?_
  refine rwp_region fun K4 hK4 => ?_
  obtain ⟨y5, h6, h⟩ := bind_inv h
  refine st0 192 rfl (call_ok (v := .tup [.d (eTApiFlash y5.1), .d (eI y5.2)]) (u := []) (ar_d (eI (512 : Int)) (ar_d (eI (2 : Int)) ar_nil)) rfl (flashNewOK (512 : Int) (2 : Int) y5 h6) rfl) ?_
  refine st0 256 rfl (ok (mv (.tup [.d (eTApiFlash y5.1), .d (eI y5.2)]))) ?_
  refine st0 320 rfl (ok (extr (v := .d (eTApiFlash y5.1)) rfl rfl)) ?_
  refine st0 384 rfl (ok (extr (v := .d (eI y5.2)) rfl rfl)) ?_
  refine st1 448 rfl (mem' := [(384, .var .mine [.d (eI (0 : Int)), .nil 1])]) (ok (alc (zs := [.d (eI (0 : Int)), .nil 1]))) rfl ?_
  refine stn 512 rfl (mem' := [(384, .var .mine [.d (eI y5.1.PageSize), .d ((eL 1 eU8) y5.1.Bytes)])]) (ok (sto_v (ps' := [.d (eI y5.1.PageSize), .d ((eL 1 eU8) y5.1.Bytes)]) rfl rfl rfl rfl)) rfl ?_
  refine st0 576 rfl (ok (mv (.d (eI y5.2)))) ?_
  refine hK4 _ _ ?_
  simp only [thenK, blockK, keepE, updM, List.filter_cons, List.filter_nil, List.nil_append, List.cons_append, List.map_cons, List.map_nil, envE, Mem.get, Nat.reduceEqDiff, reduceIte, Option.isNone_none, Option.isNone_some, Bool.false_eq_true, List.length_cons, List.length_nil, Nat.reduceAdd, Nat.reduceMul]
  refine hK3 _ _ _ ?_
  refine rwp_seq fun K7 hK7 => ?_
  refine rwp_region fun K8 hK8 => ?_
  refine st0 640 rfl (ok (ld_v (v := .d (.agg [eI y5.1.PageSize, (eL 1 eU8) y5.1.Bytes])) rfl rfl rfl)) ?_
  refine st1 704 rfl (mem' := [(640, .row true 1 (([(15#8)] : List (BitVec 8)).map eU8)), (384, .var .mine [.d (eI y5.1.PageSize), .d ((eL 1 eU8) y5.1.Bytes)])]) (ok (bsl (e := eU8) (ys := ([(15#8)] : List (BitVec 8))) rfl rfl rfl)) rfl ?_
  obtain ⟨y9, h10, h⟩ := bind_inv h
  refine st1 768 rfl (mem' := [(640, .row false 1 (([(15#8)] : List (BitVec 8)).map eU8)), (384, .var .mine [.d (eI y5.1.PageSize), .d ((eL 1 eU8) y5.1.Bytes)])]) (call_ok (v := .tup [.d (eTApiFlash y9.1), .d (eI y9.2.1), .d (eI y9.2.2)]) (u := [(640, .row false 1 (([(15#8)] : List (BitVec 8)).map eU8))]) (ar_d (eTApiFlash (TApiFlash.mk y5.1.PageSize y5.1.Bytes)) (ar_d (eI (1 : Int)) (ar_d (eI (3 : Int)) (ar_to rfl (to_1 rfl (ds_r (ys := ([(15#8)] : List (BitVec 8))) rfl rfl rfl ds_nil)) (ar_d (eI (-1 : Int)) ar_nil))))) rfl (flashProgramOK (TApiFlash.mk y5.1.PageSize y5.1.Bytes) (1 : Int) (3 : Int) ([(15#8)] : List (BitVec 8)) (-1 : Int) y9 h10) rfl) rfl ?_
  refine st0 832 rfl (ok (mv (.tup [.d (eTApiFlash y9.1), .d (eI y9.2.1), .d (eI y9.2.2)]))) ?_
  refine st0 896 rfl (ok (extr (v := .d (eTApiFlash y9.1)) rfl rfl)) ?_
  refine st0 960 rfl (ok (extr (v := .d (eI y9.2.1)) rfl rfl)) ?_
  refine st0 1024 rfl (ok (extr (v := .d (eI y9.2.2)) rfl rfl)) ?_
  refine st1 1088 rfl (mem' := [(1024, .var .mine [.d (eI (0 : Int)), .nil 1]), (640, .row false 1 (([(15#8)] : List (BitVec 8)).map eU8)), (384, .var .mine [.d (eI y5.1.PageSize), .d ((eL 1 eU8) y5.1.Bytes)])]) (ok (alc (zs := [.d (eI (0 : Int)), .nil 1]))) rfl ?_
  refine stn 1152 rfl (mem' := [(1024, .var .mine [.d (eI y9.1.PageSize), .d ((eL 1 eU8) y9.1.Bytes)]), (640, .row false 1 (([(15#8)] : List (BitVec 8)).map eU8)), (384, .var .mine [.d (eI y5.1.PageSize), .d ((eL 1 eU8) y5.1.Bytes)])]) (ok (sto_v (ps' := [.d (eI y9.1.PageSize), .d ((eL 1 eU8) y9.1.Bytes)]) rfl rfl rfl rfl)) rfl ?_
  refine st0 1216 rfl (ok (mv (.d (eI y9.2.1)))) ?_
  refine st0 1280 rfl (ok (mv (.d (eI y9.2.2)))) ?_
  refine hK8 _ _ ?_
  simp only [thenK, blockK, keepE, updM, List.filter_cons, List.filter_nil, List.nil_append, List.cons_append, List.map_cons, List.map_nil, envE, Mem.get, Nat.reduceEqDiff, reduceIte, Option.isNone_none, Option.isNone_some, Bool.false_eq_true, List.length_cons, List.length_nil, Nat.reduceAdd, Nat.reduceMul]
  refine hK7 _ _ _ ?_
  refine rwp_seq fun K11 hK11 => ?_
  refine rwp_region fun K12 hK12 => ?_
  refine st0 1344 rfl (ok (ld_v (v := .d (.agg [eI y9.1.PageSize, (eL 1 eU8) y9.1.Bytes])) rfl rfl rfl)) ?_
  refine st1 1408 rfl (mem' := [(1344, .row true 1 (([(240#8)] : List (BitVec 8)).map eU8)), (1024, .var .mine [.d (eI y9.1.PageSize), .d ((eL 1 eU8) y9.1.Bytes)]), (640, .row false 1 (([(15#8)] : List (BitVec 8)).map eU8)), (384, .var .mine [.d (eI y5.1.PageSize), .d ((eL 1 eU8) y5.1.Bytes)])]) (ok (bsl (e := eU8) (ys := ([(240#8)] : List (BitVec 8))) rfl rfl rfl)) rfl ?_
  obtain ⟨y13, h14, h⟩ := bind_inv h
  refine st1 1472 rfl (mem' := [(1344, .row false 1 (([(240#8)] : List (BitVec 8)).map eU8)), (1024, .var .mine [.d (eI y9.1.PageSize), .d ((eL 1 eU8) y9.1.Bytes)]), (640, .row false 1 (([(15#8)] : List (BitVec 8)).map eU8)), (384, .var .mine [.d (eI y5.1.PageSize), .d ((eL 1 eU8) y5.1.Bytes)])]) (call_ok (v := .tup [.d (eTApiFlash y13.1), .d (eI y13.2.1), .d (eI y13.2.2)]) (u := [(1344, .row false 1 (([(240#8)] : List (BitVec 8)).map eU8))]) (ar_d (eTApiFlash (TApiFlash.mk y9.1.PageSize y9.1.Bytes)) (ar_d (eI (1 : Int)) (ar_d (eI (3 : Int)) (ar_to rfl (to_1 rfl (ds_r (ys := ([(240#8)] : List (BitVec 8))) rfl rfl rfl ds_nil)) (ar_d (eI (-1 : Int)) ar_nil))))) rfl (flashProgramOK (TApiFlash.mk y9.1.PageSize y9.1.Bytes) (1 : Int) (3 : Int) ([(240#8)] : List (BitVec 8)) (-1 : Int) y13 h14) rfl) rfl ?_
  refine st0 1536 rfl (ok (mv (.tup [.d (eTApiFlash y13.1), .d (eI y13.2.1), .d (eI y13.2.2)]))) ?_
  refine st0 1600 rfl (ok (extr (v := .d (eTApiFlash y13.1)) rfl rfl)) ?_
  refine st0 1664 rfl (ok (extr (v := .d (eI y13.2.1)) rfl rfl)) ?_
  refine st0 1728 rfl (ok (extr (v := .d (eI y13.2.2)) rfl rfl)) ?_
  refine st1 1792 rfl (mem' := [(1728, .var .mine [.d (eI (0 : Int)), .nil 1]), (1344, .row false 1 (([(240#8)] : List (BitVec 8)).map eU8)), (1024, .var .mine [.d (eI y9.1.PageSize), .d ((eL 1 eU8) y9.1.Bytes)]), (640, .row false 1 (([(15#8)] : List (BitVec 8)).map eU8)), (384, .var .mine [.d (eI y5.1.PageSize), .d ((eL 1 eU8) y5.1.Bytes)])]) (ok (alc (zs := [.d (eI (0 : Int)), .nil 1]))) rfl ?_
  refine stn 1856 rfl (mem' := [(1728, .var .mine [.d (eI y13.1.PageSize), .d ((eL 1 eU8) y13.1.Bytes)]), (1344, .row false 1 (([(240#8)] : List (BitVec 8)).map eU8)), (1024, .var .mine [.d (eI y9.1.PageSize), .d ((eL 1 eU8) y9.1.Bytes)]), (640, .row false 1 (([(15#8)] : List (BitVec 8)).map eU8)), (384, .var .mine [.d (eI y5.1.PageSize), .d ((eL 1 eU8) y5.1.Bytes)])]) (ok (sto_v (ps' := [.d (eI y13.1.PageSize), .d ((eL 1 eU8) y13.1.Bytes)]) rfl rfl rfl rfl)) rfl ?_
  refine st0 1920 rfl (ok (mv (.d (eI y13.2.1)))) ?_
  refine st0 1984 rfl (ok (mv (.d (eI y13.2.2)))) ?_
  refine hK12 _ _ ?_
  simp only [thenK, blockK, keepE, updM, List.filter_cons, List.filter_nil, List.nil_append, List.cons_append, List.map_cons, List.map_nil, envE, Mem.get, Nat.reduceEqDiff, reduceIte, Option.isNone_none, Option.isNone_some, Bool.false_eq_true, List.length_cons, List.length_nil, Nat.reduceAdd, Nat.reduceMul]
  refine hK11 _ _ _ ?_
  refine rwp_seq fun K15 hK15 => ?_
  refine rwp_region fun K16 hK16 => ?_
  refine st0 2048 rfl (ok (ld_v (v := .d (.agg [eI y13.1.PageSize, (eL 1 eU8) y13.1.Bytes])) rfl rfl rfl)) ?_
  obtain ⟨y17, h18, h⟩ := bind_inv h
  refine st0 2112 rfl (call_ok (v := .tup [.d ((eL 1 eU8) y17.1), .d (eI y17.2)]) (u := []) (ar_d (eTApiFlash (TApiFlash.mk y13.1.PageSize y13.1.Bytes)) (ar_d (eI (1 : Int)) (ar_d (eI (3 : Int)) (ar_d (eI (1 : Int)) ar_nil)))) rfl (flashReadOK (TApiFlash.mk y13.1.PageSize y13.1.Bytes) (1 : Int) (3 : Int) (1 : Int) y17 h18) rfl) ?_
  refine st0 2176 rfl (ok (mv (.tup [.d ((eL 1 eU8) y17.1), .d (eI y17.2)]))) ?_
  refine st0 2240 rfl (ok (extr (v := .d ((eL 1 eU8) y17.1)) rfl rfl)) ?_
  refine st0 2304 rfl (ok (extr (v := .d (eI y17.2)) rfl rfl)) ?_
  refine st0 2368 rfl (ok (mv (.d ((eL 1 eU8) y17.1)))) ?_
  refine st0 2432 rfl (ok (mv (.d (eI y17.2)))) ?_
  refine hK16 _ _ ?_
  simp only [thenK, blockK, keepE, updM, List.filter_cons, List.filter_nil, List.nil_append, List.cons_append, List.map_cons, List.map_nil, envE, Mem.get, Nat.reduceEqDiff, reduceIte, Option.isNone_none, Option.isNone_some, Bool.false_eq_true, List.length_cons, List.length_nil, Nat.reduceAdd, Nat.reduceMul]
  refine hK15 _ _ _ ?_
  refine rwp_seq fun K19 hK19 => ?_
  refine rwp_region fun K20 hK20 => ?_
  refine st0 2496 rfl (ok (mv (.d (eI y5.2)))) ?_
  refine st0 2560 rfl (ok (eqlI _ (0 : Int))) ?_
  refine st0 2624 rfl (ok (mv (.d (eB (y5.2 == (0 : Int)))))) ?_
  rcases Bool.eq_false_or_eq_true ((y5.2 == (0 : Int))) with h21 | h21
  · replace h := ite_t h h21
    refine stG (isT h21) ?_
    refine st0 2688 rfl (ok (mv (.d (eI y9.2.2)))) ?_
    refine stG (isT h21) ?_
    refine st0 2752 rfl (ok (eqlI _ (0 : Int))) ?_
    refine st0 2816 rfl (ok (pick_t h21 (.d (eB (y9.2.2 == (0 : Int)))) _)) ?_
    refine st0 2880 rfl (ok (mv (.d (eB (y9.2.2 == (0 : Int)))))) ?_
    rcases Bool.eq_false_or_eq_true ((y9.2.2 == (0 : Int))) with h22 | h22
    · replace h := ite_t h h22
      refine stG (isT h22) ?_
      refine st0 2944 rfl (ok (mv (.d (eI y13.2.2)))) ?_
      refine stG (isT h22) ?_
      refine st0 3008 rfl (ok (eqlI _ (0 : Int))) ?_
      refine st0 3072 rfl (ok (pick_t h22 (.d (eB (y13.2.2 == (0 : Int)))) _)) ?_
      refine st0 3136 rfl (ok (mv (.d (eB (y13.2.2 == (0 : Int)))))) ?_
      rcases Bool.eq_false_or_eq_true ((y13.2.2 == (0 : Int))) with h23 | h23
      · replace h := ite_t h h23
        refine stG (isT h23) ?_
        refine st0 3200 rfl (ok (mv (.d (eI y17.2)))) ?_
        refine stG (isT h23) ?_
        refine st0 3264 rfl (ok (eqlI _ (0 : Int))) ?_
        refine st0 3328 rfl (ok (pick_t h23 (.d (eB (y17.2 == (0 : Int)))) _)) ?_
        refine st0 3392 rfl (ok (mv (.d (eB (y17.2 == (0 : Int)))))) ?_
        rcases Bool.eq_false_or_eq_true ((y17.2 == (0 : Int))) with h24 | h24
        · replace h := ite_t h h24
          refine stG (isT h24) ?_
          refine st0 3456 rfl (ok (fa_k 1 rfl)) ?_
          refine stG (isT h24) ?_
          refine st0 3520 rfl (ok (ld_v (v := .d ((eL 1 eU8) y5.1.Bytes)) rfl rfl rfl)) ?_
          refine stG (isT h24) ?_
          refine st0 3584 rfl (ok (lenL _ _)) ?_
          refine stG (isT h24) ?_
          refine st0 3648 rfl (ok (eqlI _ (1024 : Int))) ?_
          refine st0 3712 rfl (ok (pick_t h24 (.d (eB ((y5.1.Bytes.length : Int) == (1024 : Int)))) _)) ?_
          refine st0 3776 rfl (ok (mv (.d (eB ((y5.1.Bytes.length : Int) == (1024 : Int)))))) ?_
          rcases Bool.eq_false_or_eq_true (((y5.1.Bytes.length : Int) == (1024 : Int))) with h25 | h25
          · replace h := ite_t h h25
            refine stG (isT h25) ?_
            refine st0 3840 rfl (ok (mv (.d (eI y9.2.1)))) ?_
            refine stG (isT h25) ?_
            refine st0 3904 rfl (ok (eqlI _ (-1 : Int))) ?_
            refine st0 3968 rfl (ok (pick_t h25 (.d (eB (y9.2.1 == (-1 : Int)))) _)) ?_
            refine st0 4032 rfl (ok (mv (.d (eB (y9.2.1 == (-1 : Int)))))) ?_
            rcases Bool.eq_false_or_eq_true ((y9.2.1 == (-1 : Int))) with h26 | h26
            · replace h := ite_t h h26
              refine stG (isT h26) ?_
              refine st0 4096 rfl (ok (mv (.d ((eL 1 eU8) y17.1)))) ?_
              refine stG (isT h26) ?_
              refine st0 4160 rfl (ok (b2s contL)) ?_
              refine stG (isT h26) ?_
              refine st0 4224 rfl (ok (eqlS y17.1 ([0#8] : List (BitVec 8)))) ?_
              refine st0 4288 rfl (ok (pick_t h26 (.d (eB (y17.1 == ([0#8] : List (BitVec 8))))) _)) ?_
              refine st0 4352 rfl (ok (mv (.d (eB (y17.1 == ([0#8] : List (BitVec 8))))))) ?_
              refine hK20 _ _ ?_
              simp only [thenK, blockK, keepE, updM, List.filter_cons, List.filter_nil, List.nil_append, List.cons_append, List.map_cons, List.map_nil, envE, Mem.get, Nat.reduceEqDiff, reduceIte, Option.isNone_none, Option.isNone_some, Bool.false_eq_true, List.length_cons, List.length_nil, Nat.reduceAdd, Nat.reduceMul]
              refine hK19 _ _ _ ?_
              refine rwp_ret ?_
              obtain rfl := Option.some.inj h
              try simp only [thenK, blockK, reduceIte]
              exact Or.inl (end_ok trivial (rs_t (v := .d (eB (y17.1 == ([0#8] : List (BitVec 8))))) rfl rs_nil) (en_d (to_d _) en_nil) ou_nil (by first | exact eok rfl rfl rfl rfl trivial | (refine eok ?_ ?_ ?_ ?_ ?_ <;> first | rfl | exact trivial | simp [retM, Mem.get, PV.renL, PV.ren, Blk.ren, comps, rhoR, rhoM, appN, PV.refsL, PV.refs, keys, nodupB, Blk.refs, allIn, Blk.bor])))
            · replace h := ite_f h h26
              refine stGN 4096 rfl rfl h26 ?_
              refine stGN 4160 rfl rfl h26 ?_
              refine stGN 4224 rfl rfl h26 ?_
              refine st0 4288 rfl (ok (pick_f h26 _ (.d (eB false)))) ?_
              refine st0 4352 rfl (ok (mv (.d (eB false)))) ?_
              refine hK20 _ _ ?_
              simp only [thenK, blockK, keepE, updM, List.filter_cons, List.filter_nil, List.nil_append, List.cons_append, List.map_cons, List.map_nil, envE, Mem.get, Nat.reduceEqDiff, reduceIte, Option.isNone_none, Option.isNone_some, Bool.false_eq_true, List.length_cons, List.length_nil, Nat.reduceAdd, Nat.reduceMul]
              refine hK19 _ _ _ ?_
              refine rwp_ret ?_
              obtain rfl := Option.some.inj h
              try simp only [thenK, blockK, reduceIte]
              exact Or.inl (end_ok trivial (rs_t (v := .d (eB false)) rfl rs_nil) (en_d (to_d _) en_nil) ou_nil (by first | exact eok rfl rfl rfl rfl trivial | (refine eok ?_ ?_ ?_ ?_ ?_ <;> first | rfl | exact trivial | simp [retM, Mem.get, PV.renL, PV.ren, Blk.ren, comps, rhoR, rhoM, appN, PV.refsL, PV.refs, keys, nodupB, Blk.refs, allIn, Blk.bor])))
          · replace h := ite_f h h25
            refine stGN 3840 rfl rfl h25 ?_
            refine stGN 3904 rfl rfl h25 ?_
            refine st0 3968 rfl (ok (pick_f h25 _ (.d (eB false)))) ?_
            refine st0 4032 rfl (ok (mv (.d (eB false)))) ?_
            refine stGN 4096 rfl rfl rfl ?_
            refine stGN 4160 rfl rfl rfl ?_
            refine stGN 4224 rfl rfl rfl ?_
            refine st0 4288 rfl (ok (pick_f rfl _ (.d (eB false)))) ?_
            refine st0 4352 rfl (ok (mv (.d (eB false)))) ?_
            refine hK20 _ _ ?_
            simp only [thenK, blockK, keepE, updM, List.filter_cons, List.filter_nil, List.nil_append, List.cons_append, List.map_cons, List.map_nil, envE, Mem.get, Nat.reduceEqDiff, reduceIte, Option.isNone_none, Option.isNone_some, Bool.false_eq_true, List.length_cons, List.length_nil, Nat.reduceAdd, Nat.reduceMul]
            refine hK19 _ _ _ ?_
            refine rwp_ret ?_
            obtain rfl := Option.some.inj h
            try simp only [thenK, blockK, reduceIte]
            exact Or.inl (end_ok trivial (rs_t (v := .d (eB false)) rfl rs_nil) (en_d (to_d _) en_nil) ou_nil (by first | exact eok rfl rfl rfl rfl trivial | (refine eok ?_ ?_ ?_ ?_ ?_ <;> first | rfl | exact trivial | simp [retM, Mem.get, PV.renL, PV.ren, Blk.ren, comps, rhoR, rhoM, appN, PV.refsL, PV.refs, keys, nodupB, Blk.refs, allIn, Blk.bor])))
        · replace h := ite_f h h24
          refine stGN 3456 rfl rfl h24 ?_
          refine stGN 3520 rfl rfl h24 ?_
          refine stGN 3584 rfl rfl h24 ?_
          refine stGN 3648 rfl rfl h24 ?_
          refine st0 3712 rfl (ok (pick_f h24 _ (.d (eB false)))) ?_
          refine st0 3776 rfl (ok (mv (.d (eB false)))) ?_
          refine stGN 3840 rfl rfl rfl ?_
          refine stGN 3904 rfl rfl rfl ?_
          refine st0 3968 rfl (ok (pick_f rfl _ (.d (eB false)))) ?_
          refine st0 4032 rfl (ok (mv (.d (eB false)))) ?_
          refine stGN 4096 rfl rfl rfl ?_
          refine stGN 4160 rfl rfl rfl ?_
          refine stGN 4224 rfl rfl rfl ?_
          refine st0 4288 rfl (ok (pick_f rfl _ (.d (eB false)))) ?_
          refine st0 4352 rfl (ok (mv (.d (eB false)))) ?_
          refine hK20 _ _ ?_
          simp only [thenK, blockK, keepE, updM, List.filter_cons, List.filter_nil, List.nil_append, List.cons_append, List.map_cons, List.map_nil, envE, Mem.get, Nat.reduceEqDiff, reduceIte, Option.isNone_none, Option.isNone_some, Bool.false_eq_true, List.length_cons, List.length_nil, Nat.reduceAdd, Nat.reduceMul]
          refine hK19 _ _ _ ?_
          refine rwp_ret ?_
          obtain rfl := Option.some.inj h
          try simp only [thenK, blockK, reduceIte]
          exact Or.inl (end_ok trivial (rs_t (v := .d (eB false)) rfl rs_nil) (en_d (to_d _) en_nil) ou_nil (by first | exact eok rfl rfl rfl rfl trivial | (refine eok ?_ ?_ ?_ ?_ ?_ <;> first | rfl | exact trivial | simp [retM, Mem.get, PV.renL, PV.ren, Blk.ren, comps, rhoR, rhoM, appN, PV.refsL, PV.refs, keys, nodupB, Blk.refs, allIn, Blk.bor])))
      · replace h := ite_f h h23
        refine stGN 3200 rfl rfl h23 ?_
        refine stGN 3264 rfl rfl h23 ?_
        refine st0 3328 rfl (ok (pick_f h23 _ (.d (eB false)))) ?_
        refine st0 3392 rfl (ok (mv (.d (eB false)))) ?_
        refine stGN 3456 rfl rfl rfl ?_
        refine stGN 3520 rfl rfl rfl ?_
        refine stGN 3584 rfl rfl rfl ?_
        refine stGN 3648 rfl rfl rfl ?_
        refine st0 3712 rfl (ok (pick_f rfl _ (.d (eB false)))) ?_
        refine st0 3776 rfl (ok (mv (.d (eB false)))) ?_
        refine stGN 3840 rfl rfl rfl ?_
        refine stGN 3904 rfl rfl rfl ?_
        refine st0 3968 rfl (ok (pick_f rfl _ (.d (eB false)))) ?_
        refine st0 4032 rfl (ok (mv (.d (eB false)))) ?_
        refine stGN 4096 rfl rfl rfl ?_
        refine stGN 4160 rfl rfl rfl ?_
        refine stGN 4224 rfl rfl rfl ?_
        refine st0 4288 rfl (ok (pick_f rfl _ (.d (eB false)))) ?_
        refine st0 4352 rfl (ok (mv (.d (eB false)))) ?_
        refine hK20 _ _ ?_
        simp only [thenK, blockK, keepE, updM, List.filter_cons, List.filter_nil, List.nil_append, List.cons_append, List.map_cons, List.map_nil, envE, Mem.get, Nat.reduceEqDiff, reduceIte, Option.isNone_none, Option.isNone_some, Bool.false_eq_true, List.length_cons, List.length_nil, Nat.reduceAdd, Nat.reduceMul]
        refine hK19 _ _ _ ?_
        refine rwp_ret ?_
        obtain rfl := Option.some.inj h
        try simp only [thenK, blockK, reduceIte]
        exact Or.inl (end_ok trivial (rs_t (v := .d (eB false)) rfl rs_nil) (en_d (to_d _) en_nil) ou_nil (by first | exact eok rfl rfl rfl rfl trivial | (refine eok ?_ ?_ ?_ ?_ ?_ <;> first | rfl | exact trivial | simp [retM, Mem.get, PV.renL, PV.ren, Blk.ren, comps, rhoR, rhoM, appN, PV.refsL, PV.refs, keys, nodupB, Blk.refs, allIn, Blk.bor])))
    · replace h := ite_f h h22
      refine stGN 2944 rfl rfl h22 ?_
      refine stGN 3008 rfl rfl h22 ?_
      refine st0 3072 rfl (ok (pick_f h22 _ (.d (eB false)))) ?_
      refine st0 3136 rfl (ok (mv (.d (eB false)))) ?_
      refine stGN 3200 rfl rfl rfl ?_
      refine stGN 3264 rfl rfl rfl ?_
      refine st0 3328 rfl (ok (pick_f rfl _ (.d (eB false)))) ?_
      refine st0 3392 rfl (ok (mv (.d (eB false)))) ?_
      refine stGN 3456 rfl rfl rfl ?_
      refine stGN 3520 rfl rfl rfl ?_
      refine stGN 3584 rfl rfl rfl ?_
      refine stGN 3648 rfl rfl rfl ?_
      refine st0 3712 rfl (ok (pick_f rfl _ (.d (eB false)))) ?_
      refine st0 3776 rfl (ok (mv (.d (eB false)))) ?_
      refine stGN 3840 rfl rfl rfl ?_
      refine stGN 3904 rfl rfl rfl ?_
      refine st0 3968 rfl (ok (pick_f rfl _ (.d (eB false)))) ?_
      refine st0 4032 rfl (ok (mv (.d (eB false)))) ?_
      refine stGN 4096 rfl rfl rfl ?_
      refine stGN 4160 rfl rfl rfl ?_
      refine stGN 4224 rfl rfl rfl ?_
      refine st0 4288 rfl (ok (pick_f rfl _ (.d (eB false)))) ?_
      refine st0 4352 rfl (ok (mv (.d (eB false)))) ?_
      refine hK20 _ _ ?_
      simp only [thenK, blockK, keepE, updM, List.filter_cons, List.filter_nil, List.nil_append, List.cons_append, List.map_cons, List.map_nil, envE, Mem.get, Nat.reduceEqDiff, reduceIte, Option.isNone_none, Option.isNone_some, Bool.false_eq_true, List.length_cons, List.length_nil, Nat.reduceAdd, Nat.reduceMul]
      refine hK19 _ _ _ ?_
      refine rwp_ret ?_
      obtain rfl := Option.some.inj h
      try simp only [thenK, blockK, reduceIte]
      exact Or.inl (end_ok trivial (rs_t (v := .d (eB false)) rfl rs_nil) (en_d (to_d _) en_nil) ou_nil (by first | exact eok rfl rfl rfl rfl trivial | (refine eok ?_ ?_ ?_ ?_ ?_ <;> first | rfl | exact trivial | simp [retM, Mem.get, PV.renL, PV.ren, Blk.ren, comps, rhoR, rhoM, appN, PV.refsL, PV.refs, keys, nodupB, Blk.refs, allIn, Blk.bor])))
  · replace h := ite_f h h21
    refine stGN 2688 rfl rfl h21 ?_
    refine stGN 2752 rfl rfl h21 ?_
    refine st0 2816 rfl (ok (pick_f h21 _ (.d (eB false)))) ?_
    refine st0 2880 rfl (ok (mv (.d (eB false)))) ?_
    refine stGN 2944 rfl rfl rfl ?_
    refine stGN 3008 rfl rfl rfl ?_
    refine st0 3072 rfl (ok (pick_f rfl _ (.d (eB false)))) ?_
    refine st0 3136 rfl (ok (mv (.d (eB false)))) ?_
    refine stGN 3200 rfl rfl rfl ?_
    refine stGN 3264 rfl rfl rfl ?_
    refine st0 3328 rfl (ok (pick_f rfl _ (.d (eB false)))) ?_
    refine st0 3392 rfl (ok (mv (.d (eB false)))) ?_
    refine stGN 3456 rfl rfl rfl ?_
    refine stGN 3520 rfl rfl rfl ?_
    refine stGN 3584 rfl rfl rfl ?_
    refine stGN 3648 rfl rfl rfl ?_
    refine st0 3712 rfl (ok (pick_f rfl _ (.d (eB false)))) ?_
    refine st0 3776 rfl (ok (mv (.d (eB false)))) ?_
    refine stGN 3840 rfl rfl rfl ?_
    refine stGN 3904 rfl rfl rfl ?_
    refine st0 3968 rfl (ok (pick_f rfl _ (.d (eB false)))) ?_
    refine st0 4032 rfl (ok (mv (.d (eB false)))) ?_
    refine stGN 4096 rfl rfl rfl ?_
    refine stGN 4160 rfl rfl rfl ?_
    refine stGN 4224 rfl rfl rfl ?_
    refine st0 4288 rfl (ok (pick_f rfl _ (.d (eB false)))) ?_
    refine st0 4352 rfl (ok (mv (.d (eB false)))) ?_
    refine hK20 _ _ ?_
    simp only [thenK, blockK, keepE, updM, List.filter_cons, List.filter_nil, List.nil_append, List.cons_append, List.map_cons, List.map_nil, envE, Mem.get, Nat.reduceEqDiff, reduceIte, Option.isNone_none, Option.isNone_some, Bool.false_eq_true, List.length_cons, List.length_nil, Nat.reduceAdd, Nat.reduceMul]
    refine hK19 _ _ _ ?_
    refine rwp_ret ?_
    obtain rfl := Option.some.inj h
    try simp only [thenK, blockK, reduceIte]
    exact Or.inl (end_ok trivial (rs_t (v := .d (eB false)) rfl rs_nil) (en_d (to_d _) en_nil) ou_nil (by first | exact eok rfl rfl rfl rfl trivial | (refine eok ?_ ?_ ?_ ?_ ?_ <;> first | rfl | exact trivial | simp [retM, Mem.get, PV.renL, PV.ren, Blk.ren, comps, rhoR, rhoM, appN, PV.refsL, PV.refs, keys, nodupB, Blk.refs, allIn, Blk.bor])))

/-- passkey/passkeyref7.NewFlash -/
def passkeyref7NewFlashH : Hints := ⟨[(0, [0, 1, 4]), (1, [0, 1, 4, 21]), (2, [4, 5]), (3, [0, 1, 4, 6]), (4, [0, 1, 4, 6, 7]), (5, [0, 1, 4, 6, 7, 29]), (7, [0, 1, 4, 6, 7]), (6, [0, 1, 4, 6, 7]), (8, [4, 5])], []⟩
def passkeyref7NewFlashRc : RCode :=
  .seq (.region false [⟨some 4, .alloc [.d (.int .i64 0), .nil 1], [], none, []⟩, ⟨some 5, .mv, [.k (.d (.int .i64 0))], none, []⟩] [0, 1, 4]) (.seq (.seq (.region false [⟨some 8,
  .mv, [.t 0], none, []⟩, ⟨some 9, .bin .lss, [.t 8, .k (.d (.int .i64 512))], none, []⟩, ⟨some 10, .mv, [.t 9], none, []⟩, ⟨some 11, .mv, [.t 0], some (10, false), []⟩, ⟨some 12,
  .bin .gtr, [.t 11, .k (.d (.int .i64 8192))], some (10, false), []⟩, ⟨some 13, .pick, [.t 10, .k (.d (.bool true)), .t 12], none, []⟩, ⟨some 14, .mv, [.t 13], none, []⟩, ⟨some
  15, .mv, [.t 1], some (14, false), []⟩, ⟨some 16, .bin .lss, [.t 15, .k (.d (.int .i64 1))], some (14, false), []⟩, ⟨some 17, .pick, [.t 14, .k (.d (.bool true)), .t 16], none,
  []⟩, ⟨some 18, .mv, [.t 17], none, []⟩, ⟨some 19, .mv, [.t 1], some (18, false), []⟩, ⟨some 20, .bin .gtr, [.t 19, .k (.d (.int .i64 8))], some (18, false), []⟩, ⟨some 21, .pick,
  [.t 18, .k (.d (.bool true)), .t 20], none, []⟩] [0, 1, 4, 21]) (.cond (.t 21) (.seq (.region false [⟨some 22, .build [.d (.int .i64 0), .nil 1] [], [], none, []⟩, ⟨none, .store
  2, [.t 4, .t 22], none, []⟩, ⟨some 5, .mv, [.k (.d (.int .i64 9))], none, []⟩] [4, 5]) .ret) .skip)) (.seq (.region false [⟨some 23, .mv, [.t 0], none, []⟩, ⟨some 24, .build [.d
  (.int .i64 0), .nil 1] [(0, 1)], [.t 23], none, []⟩, ⟨some 6, .alloc [.d (.int .i64 0), .nil 1], [], none, []⟩, ⟨none, .store 2, [.t 6, .t 24], none, []⟩] [0, 1, 4, 6]) (.seq
  (.seq (.region false [⟨some 7, .mv, [.k (.d (.int .i64 0))], none, []⟩] [0, 1, 4, 6, 7]) (.block 0 (.loop [] (.seq (.seq (.region false [⟨some 25, .mv, [.t 7], none, []⟩, ⟨some
  26, .mv, [.t 0], none, []⟩, ⟨some 27, .mv, [.t 1], none, []⟩, ⟨some 28, .bin .mul, [.t 26, .t 27], none, []⟩, ⟨some 29, .bin .lss, [.t 25, .t 28], none, []⟩] [0, 1, 4, 6, 7, 29])
  (.cond (.t 29) .skip (.exit 0))) (.seq (.block 1 (.region false [⟨some 32, .fa 1, [.t 6], none, []⟩, ⟨some 33, .load 1 false, [.t 32], none, []⟩, ⟨some 34, .bslice 1 false 1 [.d
  (.int .u8 0)] [0], [.k (.d (.int .u8 255))], none, []⟩, ⟨some 35, .app 1 140737488355328, [.t 33, .t 34], none, []⟩, ⟨some 36, .fa 1, [.t 6], none, []⟩, ⟨none, .store 1, [.t 36,
  .t 35], none, []⟩] [0, 1, 4, 6, 7])) (.region false [⟨some 30, .mv, [.t 7], none, []⟩, ⟨some 31, .bin .add, [.t 30, .k (.d (.int .i64 1))], none, []⟩, ⟨some 7, .mv, [.t 31],
  none, []⟩] [0, 1, 4, 6, 7])))))) (.seq (.region false [⟨some 37, .load 2 true, [.t 6], none, []⟩, ⟨none, .store 2, [.t 4, .t 37], none, []⟩, ⟨some 5, .mv, [.k (.d (.int .i64
  0))], none, []⟩] [4, 5]) .ret))))
def passkeyref7NewFlashRr : List RR := [.c 4 2 true, .t 5]
theorem passkeyref7NewFlashC : compFn Try.prog 11 passkeyref7NewFlashH = some (passkeyref7NewFlashRc, passkeyref7NewFlashRr, 38) := by kernel_rfl
theorem passkeyref7NewFlashOK (a0 : Int) (a1 : Int) (res : TApiFlash × Int) (h : passkeyref7NewFlash a0 a1 = some res) : CallOK Try.prog 11 [.d (eI a0), .d (eI a1)] [] (.tup [.d (eTApiFlash res.1), .d (eI res.2)]) [] := by
  unfold passkeyref7NewFlash at h
  refine callOK passkeyref7NewFlashC fm rfl ?_
  simp only [initE, initM, nbor, List.map_cons, List.map_nil, Nat.reduceAdd]
  unfold passkeyref7NewFlashRc
  refine rwp_seq fun K1 hK1 => ?_
  refine rwp_region fun K2 hK2 => ?_
  refine st1 128 rfl (mem' := [(64, .var .mine [.d (eI (0 : Int)), .nil 1])]) (ok (alc (zs := [.d (eI (0 : Int)), .nil 1]))) rfl ?_
  refine st0 192 rfl (ok (mv (.d (eI (0 : Int))))) ?_
  refine hK2 _ _ ?_
  simp only [thenK, blockK, keepE, updM, List.filter_cons, List.filter_nil, List.nil_append, List.cons_append, List.map_cons, List.map_nil, envE, Mem.get, Nat.reduceEqDiff, reduceIte, Option.isNone_none, Option.isNone_some, Bool.false_eq_true, List.length_cons, List.length_nil, Nat.reduceAdd, Nat.reduceMul]
  refine hK1 _ _ _ ?_
  refine rwp_seq fun K3 hK3 => ?_
  refine rwp_join ([], []) 1152 (fun env mem => ∃ (v4 : Bool), passkeyref7NewFlashJ1 a0 a1 v4 = some res ∧ env = [(0, .d (eI a0)), (1, .d (eI a1)), (4, .ptr 64 0), (21, .d (eB v4))] ∧ mem = [(64, .var .mine [.d (eI (0 : Int)), .nil 1])]) (fun _ _ hI => ?_) (fun K5 hK5 => ?_)
  · obtain ⟨v4, h, rfl, rfl⟩ := hI
    unfold passkeyref7NewFlashJ1 at h
    rcases Bool.eq_false_or_eq_true (v4) with h6 | h6
    · replace h := ite_t h h6
      refine rwp_t (isT h6) ?_
      refine rwp_seq fun K7 hK7 => ?_
      refine rwp_region fun K8 hK8 => ?_
      refine st0 1216 rfl (ok (bld (v := .agg [.d (eI (0 : Int)), .nil 1]) rfl rfl)) ?_
      refine stn 1280 rfl (mem' := [(64, .var .mine [.d (eI (0 : Int)), .nil 1])]) (ok (sto_v (ps' := [.d (eI (0 : Int)), .nil 1]) rfl rfl rfl rfl)) rfl ?_
      refine st0 1344 rfl (ok (mv (.d (eI (9 : Int))))) ?_
      refine hK8 _ _ ?_
      simp only [thenK, blockK, keepE, updM, List.filter_cons, List.filter_nil, List.nil_append, List.cons_append, List.map_cons, List.map_nil, envE, Mem.get, Nat.reduceEqDiff, reduceIte, Option.isNone_none, Option.isNone_some, Bool.false_eq_true, List.length_cons, List.length_nil, Nat.reduceAdd, Nat.reduceMul]
      refine hK7 _ _ _ ?_
      refine rwp_ret ?_
      obtain rfl := Option.some.inj h
      try simp only [thenK, blockK, reduceIte]
      exact Or.inl (end_ok trivial (rs_c (id := 64) (off := 0) (v := .agg [.d (eI (0 : Int)), .nil 1]) rfl rfl rfl rfl (rs_t (v := .d (eI (9 : Int))) rfl rs_nil)) (en_d (to_agg (ds_d _ (ds_n eU8 ds_nil)) (x := eTApiFlash (TApiFlash.mk (0 : Int) ([] : List (BitVec 8)))) rfl) (en_d (to_d _) en_nil)) ou_nil (by first | exact eok rfl rfl rfl rfl trivial | (refine eok ?_ ?_ ?_ ?_ ?_ <;> first | rfl | exact trivial | simp [retM, Mem.get, PV.renL, PV.ren, Blk.ren, comps, rhoR, rhoM, appN, PV.refsL, PV.refs, keys, nodupB, Blk.refs, allIn, Blk.bor])))
    · replace h := ite_f h h6
      refine rwp_f (isF h6) ?_
      refine rwp_skip ?_
      refine hK3 _ _ _ ?_
      refine rwp_seq fun K9 hK9 => ?_
      refine rwp_region fun K10 hK10 => ?_
      refine st0 1216 rfl (ok (mv (.d (eI a0)))) ?_
      refine st0 1280 rfl (ok (bld (v := .agg [.d (eI a0), .nil 1]) rfl rfl)) ?_
      refine st1 1344 rfl (mem' := [(1280, .var .mine [.d (eI (0 : Int)), .nil 1]), (64, .var .mine [.d (eI (0 : Int)), .nil 1])]) (ok (alc (zs := [.d (eI (0 : Int)), .nil 1]))) rfl ?_
      refine stn 1408 rfl (mem' := [(1280, .var .mine [.d (eI a0), .nil 1]), (64, .var .mine [.d (eI (0 : Int)), .nil 1])]) (ok (sto_v (ps' := [.d (eI a0), .nil 1]) rfl rfl rfl rfl)) rfl ?_
      refine hK10 _ _ ?_
      simp only [thenK, blockK, keepE, updM, List.filter_cons, List.filter_nil, List.nil_append, List.cons_append, List.map_cons, List.map_nil, envE, Mem.get, Nat.reduceEqDiff, reduceIte, Option.isNone_none, Option.isNone_some, Bool.false_eq_true, List.length_cons, List.length_nil, Nat.reduceAdd, Nat.reduceMul]
      refine hK9 _ _ _ ?_
      refine rwp_join ([], []) 2944 (fun env mem => ∃ (v11 : List (BitVec 8)), passkeyref7NewFlashJ2 a0 v11 = some res ∧ env = [(4, .ptr 64 0), (6, .ptr 1280 0)] ∧ mem = [(64, .var .mine [.d (eI (0 : Int)), .nil 1]), (1280, .var .mine [.d (eI a0), .ref 2497 v11.length 0 v11.length]), (2497, .row true 1 (v11.map eU8))]) (fun _ _ hI => ?_) (fun K12 hK12 => ?_)
      · obtain ⟨v11, h, rfl, rfl⟩ := hI
        unfold passkeyref7NewFlashJ2 at h
        refine rwp_seq fun K13 hK13 => ?_
        refine rwp_region fun K14 hK14 => ?_
        refine st0 3008 rfl (ok (ld_v (v := .agg [.d (eI a0), .ref 2497 v11.length 0 v11.length]) rfl rfl rfl)) ?_
        refine stn 3072 rfl (mem' := [(64, .var .mine [.d (eI a0), .ref 2497 v11.length 0 v11.length]), (1280, .var .mine [.d (eI a0), .ref 2497 v11.length 0 v11.length]), (2497, .row true 1 (v11.map eU8))]) (ok (sto_v (ps' := [.d (eI a0), .ref 2497 v11.length 0 v11.length]) rfl rfl rfl rfl)) rfl ?_
        refine st0 3136 rfl (ok (mv (.d (eI (0 : Int))))) ?_
        refine hK14 _ _ ?_
        simp only [thenK, blockK, keepE, updM, List.filter_cons, List.filter_nil, List.nil_append, List.cons_append, List.map_cons, List.map_nil, envE, Mem.get, Nat.reduceEqDiff, reduceIte, Option.isNone_none, Option.isNone_some, Bool.false_eq_true, List.length_cons, List.length_nil, Nat.reduceAdd, Nat.reduceMul]
        refine hK13 _ _ _ ?_
        refine rwp_ret ?_
        obtain rfl := Option.some.inj h
        try simp only [thenK, blockK, reduceIte]
        exact Or.inl (end_ok trivial (rs_c (id := 64) (off := 0) (v := .agg [.d (eI a0), .ref 2497 v11.length 0 v11.length]) rfl rfl rfl rfl (rs_t (v := .d (eI (0 : Int))) rfl rs_nil)) (en_d (to_agg (ds_d _ (ds_r (ys := v11) rfl rfl rfl ds_nil)) (x := eTApiFlash (TApiFlash.mk a0 v11)) rfl) (en_d (to_d _) en_nil)) ou_nil (by first | exact eok rfl rfl rfl rfl trivial | (refine eok ?_ ?_ ?_ ?_ ?_ <;> first | rfl | exact trivial | simp [retM, Mem.get, PV.renL, PV.ren, Blk.ren, comps, rhoR, rhoM, appN, PV.refsL, PV.refs, keys, nodupB, Blk.refs, allIn, Blk.bor])))
      · refine rwp_seq fun K15 hK15 => ?_
        refine rwp_region fun K16 hK16 => ?_
        refine st0 1472 rfl (ok (mv (.d (eI (0 : Int))))) ?_
        refine hK16 _ _ ?_
        simp only [thenK, blockK, keepE, updM, List.filter_cons, List.filter_nil, List.nil_append, List.cons_append, List.map_cons, List.map_nil, envE, Mem.get, Nat.reduceEqDiff, reduceIte, Option.isNone_none, Option.isNone_some, Bool.false_eq_true, List.length_cons, List.length_nil, Nat.reduceAdd, Nat.reduceMul]
        refine hK15 _ _ _ ?_
        refine rwp_block fun K17 hK17 => ?_
        refine rwp_loop ([], [(1280, 1, 2497)]) 2560 (fun k env mem => ∃ (v18 : List (BitVec 8)) (v19 : Int), passkeyref7NewFlashL3 a0 a1 k v18 v19 = some res ∧ env = [(0, .d (eI a0)), (1, .d (eI a1)), (4, .ptr 64 0), (6, .ptr 1280 0), (7, .d (eI v19))] ∧ mem = [(64, .var .mine [.d (eI (0 : Int)), .nil 1]), (1280, .var .mine [.d (eI a0), .ref 2497 v18.length 0 v18.length]), (2497, .row true 1 (v18.map eU8))]) FUEL ⟨_, _, Settled.refl, _, _, ⟨_, _, h, rfl, rfl⟩, ⟨rfl, ⟨⟨rfl, rfl⟩, ⟨⟨rfl, rfl⟩, ⟨⟨rfl, rfl⟩, ⟨⟨rfl, rfl⟩, ⟨⟨rfl, rfl⟩, trivial⟩⟩⟩⟩⟩, ⟨⟨rfl, rfl⟩, ⟨⟨rfl, rfl⟩, ⟨⟨rfl, rfl⟩, trivial⟩⟩⟩⟩, rfl⟩ (fun k3 env1 mem1 hI K20 hK20 => ?_)
        obtain ⟨v18, v19, h, rfl, rfl⟩ := hI
        cases k3 with
        | zero => simp [passkeyref7NewFlashL3] at h
        | succ k3 =>
          rw [passkeyref7NewFlashL3] at h
          refine rwp_seq fun K21 hK21 => ?_
          refine rwp_seq fun K22 hK22 => ?_
          refine rwp_region fun K23 hK23 => ?_
          refine st0 2624 rfl (ok (mv (.d (eI v19)))) ?_
          refine st0 2688 rfl (ok (mv (.d (eI a0)))) ?_
          refine st0 2752 rfl (ok (mv (.d (eI a1)))) ?_
          refine st0 2816 rfl (ok (mulI _ _)) ?_
          refine st0 2880 rfl (ok (lssI _ _)) ?_
          refine hK23 _ _ ?_
          simp only [thenK, blockK, keepE, updM, List.filter_cons, List.filter_nil, List.nil_append, List.cons_append, List.map_cons, List.map_nil, envE, Mem.get, Nat.reduceEqDiff, reduceIte, Option.isNone_none, Option.isNone_some, Bool.false_eq_true, List.length_cons, List.length_nil, Nat.reduceAdd, Nat.reduceMul]
          refine hK22 _ _ _ ?_
          rcases Bool.eq_false_or_eq_true ((decide (v19 < (w64 (a0 * a1))))) with h24 | h24
          · replace h := ite_t h h24
            refine rwp_t (isT h24) ?_
            refine rwp_skip ?_
            refine hK21 _ _ _ ?_
            refine rwp_seq fun K25 hK25 => ?_
            refine rwp_block fun K26 hK26 => ?_
            refine rwp_region fun K27 hK27 => ?_
            refine st0 2944 rfl (ok (fa_k 1 rfl)) ?_
            refine st0 3008 rfl (ok (ld_v (v := .ref 2497 v18.length 0 v18.length) rfl rfl rfl)) ?_
            refine st1 3072 rfl (mem' := [(3008, .row true 1 (([(255#8)] : List (BitVec 8)).map eU8)), (64, .var .mine [.d (eI (0 : Int)), .nil 1]), (1280, .var .mine [.d (eI a0), .ref 2497 v18.length 0 v18.length]), (2497, .row true 1 (v18.map eU8))]) (ok (bsl (e := eU8) (ys := ([(255#8)] : List (BitVec 8))) rfl rfl rfl)) rfl ?_
            obtain ⟨h28, h⟩ := asq_inv h
            refine st1 3136 rfl (mem' := [(2497, .row true 1 ((v18 ++ ([(255#8)] : List (BitVec 8))).map eU8)), (3008, .row true 1 (([(255#8)] : List (BitVec 8)).map eU8)), (64, .var .mine [.d (eI (0 : Int)), .nil 1]), (1280, .var .mine [.d (eI a0), .ref 2497 v18.length 0 v18.length])]) (ok (appR (e := eU8) (xs := v18) (ys := ([(255#8)] : List (BitVec 8))) (contR (xs := ([(255#8)] : List (BitVec 8))) rfl rfl rfl) rfl rfl rfl h28)) rfl ?_
            refine st0 3200 rfl (ok (fa_k 1 rfl)) ?_
            refine stn 3264 rfl (mem' := [(1280, .var .mine [.d (eI a0), .ref 2497 (((v18 ++ ([(255#8)] : List (BitVec 8)))).length) 0 (((v18 ++ ([(255#8)] : List (BitVec 8)))).length)]), (2497, .row true 1 ((v18 ++ ([(255#8)] : List (BitVec 8))).map eU8)), (3008, .row true 1 (([(255#8)] : List (BitVec 8)).map eU8)), (64, .var .mine [.d (eI (0 : Int)), .nil 1])]) (ok (sto_v (ps' := [.d (eI a0), .ref 2497 (((v18 ++ ([(255#8)] : List (BitVec 8)))).length) 0 (((v18 ++ ([(255#8)] : List (BitVec 8)))).length)]) rfl rfl rfl rfl)) rfl ?_
            refine hK27 _ _ ?_
            simp only [thenK, blockK, keepE, updM, List.filter_cons, List.filter_nil, List.nil_append, List.cons_append, List.map_cons, List.map_nil, envE, Mem.get, Nat.reduceEqDiff, reduceIte, Option.isNone_none, Option.isNone_some, Bool.false_eq_true, List.length_cons, List.length_nil, Nat.reduceAdd, Nat.reduceMul]
            refine hK26 _ _ _ ?_
            refine hK25 _ _ _ ?_
            refine rwp_region fun K29 hK29 => ?_
            refine st0 3328 rfl (ok (mv (.d (eI v19)))) ?_
            refine st0 3392 rfl (ok (addI _ (1 : Int))) ?_
            refine st0 3456 rfl (ok (mv (.d (eI (w64 (v19 + (1 : Int))))))) ?_
            refine hK29 _ _ ?_
            simp only [thenK, blockK, keepE, updM, List.filter_cons, List.filter_nil, List.nil_append, List.cons_append, List.map_cons, List.map_nil, envE, Mem.get, Nat.reduceEqDiff, reduceIte, Option.isNone_none, Option.isNone_some, Bool.false_eq_true, List.length_cons, List.length_nil, Nat.reduceAdd, Nat.reduceMul]
            exact hK20.out _ _ _ k3 (Nat.lt_succ_self k3) ⟨_, _, Settled.refl, _, _, ⟨_, _, h, rfl, rfl⟩, ⟨rfl, ⟨⟨rfl, rfl⟩, ⟨⟨rfl, rfl⟩, ⟨⟨rfl, rfl⟩, ⟨⟨rfl, rfl⟩, ⟨⟨rfl, rfl⟩, trivial⟩⟩⟩⟩⟩, ⟨⟨rfl, rfl⟩, ⟨⟨rfl, rfl⟩, ⟨⟨rfl, rfl⟩, trivial⟩⟩⟩⟩, rfl⟩
          · replace h := ite_f h h24
            refine rwp_f (isF h24) ?_
            refine rwp_exit ?_
            refine hK17 _ _ _ ?_
            exact hK12 _ _ _ ⟨_, _, Settled.refl, _, _, ⟨_, h, rfl, rfl⟩, ⟨rfl, ⟨⟨rfl, rfl⟩, ⟨⟨rfl, rfl⟩, trivial⟩⟩, ⟨⟨rfl, rfl⟩, ⟨⟨rfl, rfl⟩, ⟨⟨rfl, rfl⟩, trivial⟩⟩⟩⟩, rfl⟩
  · refine rwp_region fun K30 hK30 => ?_
    refine st0 256 rfl (ok (mv (.d (eI a0)))) ?_
    refine st0 320 rfl (ok (lssI _ (512 : Int))) ?_
    refine st0 384 rfl (ok (mv (.d (eB (decide (a0 < (512 : Int))))))) ?_
    rcases Bool.eq_false_or_eq_true ((decide (a0 < (512 : Int)))) with h31 | h31
    · replace h := ite_t h h31
      refine stGN 448 rfl rfl h31 ?_
      refine stGN 512 rfl rfl h31 ?_
      refine st0 576 rfl (ok (pick_t h31 (.d (eB true)) _)) ?_
      refine st0 640 rfl (ok (mv (.d (eB true)))) ?_
      refine stGN 704 rfl rfl rfl ?_
      refine stGN 768 rfl rfl rfl ?_
      refine st0 832 rfl (ok (pick_t rfl (.d (eB true)) _)) ?_
      refine st0 896 rfl (ok (mv (.d (eB true)))) ?_
      refine stGN 960 rfl rfl rfl ?_
      refine stGN 1024 rfl rfl rfl ?_
      refine st0 1088 rfl (ok (pick_t rfl (.d (eB true)) _)) ?_
      refine hK30 _ _ ?_
      simp only [thenK, blockK, keepE, updM, List.filter_cons, List.filter_nil, List.nil_append, List.cons_append, List.map_cons, List.map_nil, envE, Mem.get, Nat.reduceEqDiff, reduceIte, Option.isNone_none, Option.isNone_some, Bool.false_eq_true, List.length_cons, List.length_nil, Nat.reduceAdd, Nat.reduceMul]
      exact hK5 _ _ _ ⟨_, _, Settled.refl, _, _, ⟨_, h, rfl, rfl⟩, ⟨rfl, ⟨⟨rfl, rfl⟩, ⟨⟨rfl, rfl⟩, ⟨⟨rfl, rfl⟩, ⟨⟨rfl, rfl⟩, trivial⟩⟩⟩⟩, ⟨⟨rfl, rfl⟩, trivial⟩⟩, rfl⟩
    · replace h := ite_f h h31
      refine stG (isF h31) ?_
      refine st0 448 rfl (ok (mv (.d (eI a0)))) ?_
      refine stG (isF h31) ?_
      refine st0 512 rfl (ok (gtrI _ (8192 : Int))) ?_
      refine st0 576 rfl (ok (pick_f h31 _ (.d (eB (decide ((8192 : Int) < a0)))))) ?_
      refine st0 640 rfl (ok (mv (.d (eB (decide ((8192 : Int) < a0)))))) ?_
      rcases Bool.eq_false_or_eq_true ((decide ((8192 : Int) < a0))) with h32 | h32
      · replace h := ite_t h h32
        refine stGN 704 rfl rfl h32 ?_
        refine stGN 768 rfl rfl h32 ?_
        refine st0 832 rfl (ok (pick_t h32 (.d (eB true)) _)) ?_
        refine st0 896 rfl (ok (mv (.d (eB true)))) ?_
        refine stGN 960 rfl rfl rfl ?_
        refine stGN 1024 rfl rfl rfl ?_
        refine st0 1088 rfl (ok (pick_t rfl (.d (eB true)) _)) ?_
        refine hK30 _ _ ?_
        simp only [thenK, blockK, keepE, updM, List.filter_cons, List.filter_nil, List.nil_append, List.cons_append, List.map_cons, List.map_nil, envE, Mem.get, Nat.reduceEqDiff, reduceIte, Option.isNone_none, Option.isNone_some, Bool.false_eq_true, List.length_cons, List.length_nil, Nat.reduceAdd, Nat.reduceMul]
        exact hK5 _ _ _ ⟨_, _, Settled.refl, _, _, ⟨_, h, rfl, rfl⟩, ⟨rfl, ⟨⟨rfl, rfl⟩, ⟨⟨rfl, rfl⟩, ⟨⟨rfl, rfl⟩, ⟨⟨rfl, rfl⟩, trivial⟩⟩⟩⟩, ⟨⟨rfl, rfl⟩, trivial⟩⟩, rfl⟩
      · replace h := ite_f h h32
        refine stG (isF h32) ?_
        refine st0 704 rfl (ok (mv (.d (eI a1)))) ?_
        refine stG (isF h32) ?_
        refine st0 768 rfl (ok (lssI _ (1 : Int))) ?_
        refine st0 832 rfl (ok (pick_f h32 _ (.d (eB (decide (a1 < (1 : Int))))))) ?_
        refine st0 896 rfl (ok (mv (.d (eB (decide (a1 < (1 : Int))))))) ?_
        rcases Bool.eq_false_or_eq_true ((decide (a1 < (1 : Int)))) with h33 | h33
        · replace h := ite_t h h33
          refine stGN 960 rfl rfl h33 ?_
          refine stGN 1024 rfl rfl h33 ?_
          refine st0 1088 rfl (ok (pick_t h33 (.d (eB true)) _)) ?_
          refine hK30 _ _ ?_
          simp only [thenK, blockK, keepE, updM, List.filter_cons, List.filter_nil, List.nil_append, List.cons_append, List.map_cons, List.map_nil, envE, Mem.get, Nat.reduceEqDiff, reduceIte, Option.isNone_none, Option.isNone_some, Bool.false_eq_true, List.length_cons, List.length_nil, Nat.reduceAdd, Nat.reduceMul]
          exact hK5 _ _ _ ⟨_, _, Settled.refl, _, _, ⟨_, h, rfl, rfl⟩, ⟨rfl, ⟨⟨rfl, rfl⟩, ⟨⟨rfl, rfl⟩, ⟨⟨rfl, rfl⟩, ⟨⟨rfl, rfl⟩, trivial⟩⟩⟩⟩, ⟨⟨rfl, rfl⟩, trivial⟩⟩, rfl⟩
        · replace h := ite_f h h33
          refine stG (isF h33) ?_
          refine st0 960 rfl (ok (mv (.d (eI a1)))) ?_
          refine stG (isF h33) ?_
          refine st0 1024 rfl (ok (gtrI _ (8 : Int))) ?_
          refine st0 1088 rfl (ok (pick_f h33 _ (.d (eB (decide ((8 : Int) < a1)))))) ?_
          refine hK30 _ _ ?_
          simp only [thenK, blockK, keepE, updM, List.filter_cons, List.filter_nil, List.nil_append, List.cons_append, List.map_cons, List.map_nil, envE, Mem.get, Nat.reduceEqDiff, reduceIte, Option.isNone_none, Option.isNone_some, Bool.false_eq_true, List.length_cons, List.length_nil, Nat.reduceAdd, Nat.reduceMul]
          exact hK5 _ _ _ ⟨_, _, Settled.refl, _, _, ⟨_, h, rfl, rfl⟩, ⟨rfl, ⟨⟨rfl, rfl⟩, ⟨⟨rfl, rfl⟩, ⟨⟨rfl, rfl⟩, ⟨⟨rfl, rfl⟩, trivial⟩⟩⟩⟩, ⟨⟨rfl, rfl⟩, trivial⟩⟩, rfl⟩

/-- passkey/passkeyref7.SameFlash -/
def passkeyref7SameFlashH : Hints := ⟨[(0, [2, 3]), (1, [4])], []⟩
def passkeyref7SameFlashRc : RCode :=
  .seq (.region false [⟨some 2, .box, [.t 0], none, []⟩, ⟨some 3, .box, [.t 1], none, []⟩, ⟨some 4, .mv, [.k (.d (.bool false))], none, []⟩] [2, 3]) (.seq (.region false [⟨some 5,
  .fa 0, [.t 2], none, []⟩, ⟨some 6, .load 1 false, [.t 5], none, []⟩, ⟨some 7, .fa 0, [.t 3], none, []⟩, ⟨some 8, .load 1 false, [.t 7], none, []⟩, ⟨some 9, .bin .eql, [.t 6, .t
  8], none, []⟩, ⟨some 10, .mv, [.t 9], none, []⟩, ⟨some 11, .fa 1, [.t 2], some (10, true), []⟩, ⟨some 12, .load 1 false, [.t 11], some (10, true), []⟩, ⟨some 13, .b2s, [.t 12],
  some (10, true), []⟩, ⟨some 14, .fa 1, [.t 3], some (10, true), []⟩, ⟨some 15, .load 1 false, [.t 14], some (10, true), []⟩, ⟨some 16, .b2s, [.t 15], some (10, true), []⟩, ⟨some
  17, .bin .eql, [.t 13, .t 16], some (10, true), []⟩, ⟨some 18, .pick, [.t 10, .t 17, .k (.d (.bool false))], none, []⟩, ⟨some 4, .mv, [.t 18], none, []⟩] [4]) .ret)
def passkeyref7SameFlashRr : List RR := [.t 4]
theorem passkeyref7SameFlashC : compFn Try.prog 12 passkeyref7SameFlashH = some (passkeyref7SameFlashRc, passkeyref7SameFlashRr, 19) := by kernel_rfl
theorem passkeyref7SameFlashOK (a0 : TApiFlash) (a1 : TApiFlash) (res : Bool) (h : passkeyref7SameFlash a0 a1 = some res) : CallOK Try.prog 12 [.d (eTApiFlash a0), .d (eTApiFlash a1)] [] (.d (eB res)) [] := by
  unfold passkeyref7SameFlash at h
  refine callOK passkeyref7SameFlashC fm rfl ?_
  simp only [initE, initM, nbor, List.map_cons, List.map_nil, Nat.reduceAdd]
  unfold passkeyref7SameFlashRc
  refine rwp_seq fun K1 hK1 => ?_
  refine rwp_region fun K2 hK2 => ?_
  refine st1 128 rfl (mem' := [(64, .var .mine [.d (eI a0.PageSize), .d ((eL 1 eU8) a0.Bytes)])]) (ok (bx (ps := [.d (eI a0.PageSize), .d ((eL 1 eU8) a0.Bytes)]) rfl rfl)) rfl ?_
  refine st1 192 rfl (mem' := [(128, .var .mine [.d (eI a1.PageSize), .d ((eL 1 eU8) a1.Bytes)]), (64, .var .mine [.d (eI a0.PageSize), .d ((eL 1 eU8) a0.Bytes)])]) (ok (bx (ps := [.d (eI a1.PageSize), .d ((eL 1 eU8) a1.Bytes)]) rfl rfl)) rfl ?_
  refine st0 256 rfl (ok (mv (.d (eB false)))) ?_
  refine hK2 _ _ ?_
  simp only [thenK, blockK, keepE, updM, List.filter_cons, List.filter_nil, List.nil_append, List.cons_append, List.map_cons, List.map_nil, envE, Mem.get, Nat.reduceEqDiff, reduceIte, Option.isNone_none, Option.isNone_some, Bool.false_eq_true, List.length_cons, List.length_nil, Nat.reduceAdd, Nat.reduceMul]
  refine hK1 _ _ _ ?_
  refine rwp_seq fun K3 hK3 => ?_
  refine rwp_region fun K4 hK4 => ?_
  refine st0 320 rfl (ok (fa_k 0 rfl)) ?_
  refine st0 384 rfl (ok (ld_v (v := .d (eI a0.PageSize)) rfl rfl rfl)) ?_
  refine st0 448 rfl (ok (fa_k 0 rfl)) ?_
  refine st0 512 rfl (ok (ld_v (v := .d (eI a1.PageSize)) rfl rfl rfl)) ?_
  refine st0 576 rfl (ok (eqlI _ _)) ?_
  refine st0 640 rfl (ok (mv (.d (eB (a0.PageSize == a1.PageSize))))) ?_
  rcases Bool.eq_false_or_eq_true ((a0.PageSize == a1.PageSize)) with h5 | h5
  · replace h := ite_t h h5
    refine stG (isT h5) ?_
    refine st0 704 rfl (ok (fa_k 1 rfl)) ?_
    refine stG (isT h5) ?_
    refine st0 768 rfl (ok (ld_v (v := .d ((eL 1 eU8) a0.Bytes)) rfl rfl rfl)) ?_
    refine stG (isT h5) ?_
    refine st0 832 rfl (ok (b2s contL)) ?_
    refine stG (isT h5) ?_
    refine st0 896 rfl (ok (fa_k 1 rfl)) ?_
    refine stG (isT h5) ?_
    refine st0 960 rfl (ok (ld_v (v := .d ((eL 1 eU8) a1.Bytes)) rfl rfl rfl)) ?_
    refine stG (isT h5) ?_
    refine st0 1024 rfl (ok (b2s contL)) ?_
    refine stG (isT h5) ?_
    refine st0 1088 rfl (ok (eqlS a0.Bytes a1.Bytes)) ?_
    refine st0 1152 rfl (ok (pick_t h5 (.d (eB (a0.Bytes == a1.Bytes))) _)) ?_
    refine st0 1216 rfl (ok (mv (.d (eB (a0.Bytes == a1.Bytes))))) ?_
    refine hK4 _ _ ?_
    simp only [thenK, blockK, keepE, updM, List.filter_cons, List.filter_nil, List.nil_append, List.cons_append, List.map_cons, List.map_nil, envE, Mem.get, Nat.reduceEqDiff, reduceIte, Option.isNone_none, Option.isNone_some, Bool.false_eq_true, List.length_cons, List.length_nil, Nat.reduceAdd, Nat.reduceMul]
    refine hK3 _ _ _ ?_
    refine rwp_ret ?_
    obtain rfl := Option.some.inj h
    try simp only [thenK, blockK, reduceIte]
    exact Or.inl (end_ok trivial (rs_t (v := .d (eB (a0.Bytes == a1.Bytes))) rfl rs_nil) (en_d (to_d _) en_nil) ou_nil (by first | exact eok rfl rfl rfl rfl trivial | (refine eok ?_ ?_ ?_ ?_ ?_ <;> first | rfl | exact trivial | simp [retM, Mem.get, PV.renL, PV.ren, Blk.ren, comps, rhoR, rhoM, appN, PV.refsL, PV.refs, keys, nodupB, Blk.refs, allIn, Blk.bor])))
  · replace h := ite_f h h5
    refine stGN 704 rfl rfl h5 ?_
    refine stGN 768 rfl rfl h5 ?_
    refine stGN 832 rfl rfl h5 ?_
    refine stGN 896 rfl rfl h5 ?_
    refine stGN 960 rfl rfl h5 ?_
    refine stGN 1024 rfl rfl h5 ?_
    refine stGN 1088 rfl rfl h5 ?_
    refine st0 1152 rfl (ok (pick_f h5 _ (.d (eB false)))) ?_
    refine st0 1216 rfl (ok (mv (.d (eB false)))) ?_
    refine hK4 _ _ ?_
    simp only [thenK, blockK, keepE, updM, List.filter_cons, List.filter_nil, List.nil_append, List.cons_append, List.map_cons, List.map_nil, envE, Mem.get, Nat.reduceEqDiff, reduceIte, Option.isNone_none, Option.isNone_some, Bool.false_eq_true, List.length_cons, List.length_nil, Nat.reduceAdd, Nat.reduceMul]
    refine hK3 _ _ _ ?_
    refine rwp_ret ?_
    obtain rfl := Option.some.inj h
    try simp only [thenK, blockK, reduceIte]
    exact Or.inl (end_ok trivial (rs_t (v := .d (eB false)) rfl rs_nil) (en_d (to_d _) en_nil) ou_nil (by first | exact eok rfl rfl rfl rfl trivial | (refine eok ?_ ?_ ?_ ?_ ?_ <;> first | rfl | exact trivial | simp [retM, Mem.get, PV.renL, PV.ren, Blk.ren, comps, rhoR, rhoM, appN, PV.refsL, PV.refs, keys, nodupB, Blk.refs, allIn, Blk.bor])))

end Go.Proofs.Ty
