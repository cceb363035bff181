/- Each Go function comes to what its plain function says. PRINTED by a program of this session (ty.py). -/
import Derived.Test.YtpmnokohcamipaaS7
set_option linter.unusedVariables false
set_option linter.unusedSimpArgs false
set_option maxHeartbeats 4000000
set_option maxRecDepth 10000
namespace Go.Proofs.Ty
open Go Go.RW Go.Proofs
/-- passkey/passkeylaw7.FlashParts -/
def passkeylaw7FlashPartsH : Hints := ⟨[(0, [0, 1, 2, 3, 4]), (1, [0, 1, 2, 3, 4, 25]), (2, [10]), (3, [2, 3, 4, 11]), (4, [2, 3, 11, 12]), (5, [2, 3, 11, 12, 13, 14, 15]), (6, [2, 3, 12, 13, 14, 15, 16, 17, 18]), (7, [3, 12, 13, 14, 15, 17, 18, 19, 21]), (8, [3, 12, 13, 14, 15, 17, 18, 19, 21, 22]), (9, [13, 14, 15, 17, 18, 19, 21, 22, 70]), (10, [13, 14, 15, 17, 18, 19, 21, 22]), (11, [10])], []⟩
def passkeylaw7FlashPartsRc : RCode :=
  .seq (.region false [⟨some 10, .mv, [.k (.d (.bool false))], none, []⟩] [0, 1, 2, 3, 4]) (.seq (.seq (.region false [⟨some 23, .mv, [.t 3], none, []⟩, ⟨some 24, .len, [.t 23],
  none, []⟩, ⟨some 25, .bin .gtr, [.t 24, .k (.d (.int .i64 200))], none, []⟩] [0, 1, 2, 3, 4, 25]) (.cond (.t 25) (.seq (.region false [⟨some 26, .call 9 false, [], none, []⟩,
  ⟨some 10, .mv, [.t 26], none, []⟩] [10]) .ret) .skip)) (.seq (.region false [⟨some 27, .mv, [.t 0], none, []⟩, ⟨some 28, .mv, [.t 1], none, []⟩, ⟨some 29, .call 16 true, [.t 27,
  .t 28], none, []⟩, ⟨some 11, .alloc [.d (.int .i64 0), .nil 1], [], none, []⟩, ⟨none, .store 2, [.t 11, .t 29], none, []⟩] [2, 3, 4, 11]) (.seq (.region false [⟨some 30, .mv, [.t
  4], none, []⟩, ⟨some 31, .cvt .i64, [.t 30], none, []⟩, ⟨some 32, .mv, [.t 3], none, []⟩, ⟨some 33, .len, [.t 32], none, []⟩, ⟨some 34, .mn, [.t 31, .t 33], none, []⟩, ⟨some 12,
  .mv, [.t 34], none, []⟩] [2, 3, 11, 12]) (.seq (.region false [⟨some 36, .load 2 true, [.t 11], none, []⟩, ⟨some 37, .mv, [.t 2], none, []⟩, ⟨some 38, .cvt .i64, [.t 37], none,
  []⟩, ⟨some 39, .mv, [.t 3], none, []⟩, ⟨some 40, .call 20 true, [.t 36, .k (.d (.int .i64 0)), .t 38, .t 39, .k (.d (.int .i64 (-1)))], none, []⟩, ⟨some 35, .mv, [.t 40], none,
  []⟩, ⟨some 41, .ext 0, [.t 35], none, []⟩, ⟨some 42, .ext 1, [.t 35], none, []⟩, ⟨some 43, .ext 2, [.t 35], none, []⟩, ⟨some 13, .alloc [.d (.int .i64 0), .nil 1], [], none, []⟩,
  ⟨none, .store 2, [.t 13, .t 41], none, []⟩, ⟨some 14, .mv, [.t 42], none, []⟩, ⟨some 15, .mv, [.t 43], none, []⟩] [2, 3, 11, 12, 13, 14, 15]) (.seq (.region false [⟨some 45,
  .load 2 true, [.t 11], none, []⟩, ⟨some 46, .mv, [.t 2], none, []⟩, ⟨some 47, .cvt .i64, [.t 46], none, []⟩, ⟨some 48, .mv, [.t 3], none, []⟩, ⟨some 49, .mv, [.t 12], none, []⟩,
  ⟨some 50, .call 20 true, [.t 45, .k (.d (.int .i64 0)), .t 47, .t 48, .t 49], none, []⟩, ⟨some 44, .mv, [.t 50], none, []⟩, ⟨some 51, .ext 0, [.t 44], none, []⟩, ⟨some 52, .ext
  1, [.t 44], none, []⟩, ⟨some 53, .ext 2, [.t 44], none, []⟩, ⟨some 16, .alloc [.d (.int .i64 0), .nil 1], [], none, []⟩, ⟨none, .store 2, [.t 16, .t 51], none, []⟩, ⟨some 17,
  .mv, [.t 52], none, []⟩, ⟨some 18, .mv, [.t 53], none, []⟩] [2, 3, 12, 13, 14, 15, 16, 17, 18]) (.seq (.region true [⟨some 55, .load 2 true, [.t 16], none, []⟩, ⟨some 56, .mv,
  [.t 2], none, []⟩, ⟨some 57, .cvt .i64, [.t 56], none, [1]⟩, ⟨some 58, .mv, [.t 12], none, []⟩, ⟨some 59, .bin .add, [.t 57, .t 58], none, [1, 2, 3]⟩, ⟨some 60, .mv, [.t 3],
  none, []⟩, ⟨some 61, .mv, [.t 12], none, []⟩, ⟨some 62, .slice 1 true false false, [.t 60, .t 61], none, [5, 6]⟩, ⟨some 63, .call 20 true, [.t 55, .k (.d (.int .i64 0)), .t 59,
  .t 62, .k (.d (.int .i64 (-1)))], none, [0, 1, 2, 3, 4, 5, 6, 7]⟩, ⟨some 54, .mv, [.t 63], none, [0, 1, 2, 3, 4, 5, 6, 7, 8]⟩, ⟨some 64, .ext 0, [.t 54], none, [0, 1, 2, 3, 4, 5,
  6, 7, 8, 9]⟩, ⟨some 65, .ext 1, [.t 54], none, [0, 1, 2, 3, 4, 5, 6, 7, 8, 9]⟩, ⟨some 66, .ext 2, [.t 54], none, [0, 1, 2, 3, 4, 5, 6, 7, 8, 9]⟩, ⟨some 19, .alloc [.d (.int .i64
  0), .nil 1], [], none, []⟩, ⟨none, .store 2, [.t 19, .t 64], none, [0, 1, 2, 3, 4, 5, 6, 7, 8, 9, 10, 13]⟩, ⟨some 20, .mv, [.t 65], none, [0, 1, 2, 3, 4, 5, 6, 7, 8, 9, 10, 11,
  13, 14]⟩, ⟨some 21, .mv, [.t 66], none, [0, 1, 2, 3, 4, 5, 6, 7, 8, 9, 10, 11, 12, 13, 14, 15]⟩] [3, 12, 13, 14, 15, 17, 18, 19, 21]) (.seq (.region false [⟨some 22, .mv, [.k (.d
  (.int .i64 16))], none, []⟩] [3, 12, 13, 14, 15, 17, 18, 19, 21, 22]) (.seq (.seq (.region false [⟨some 67, .mv, [.t 12], none, []⟩, ⟨some 68, .mv, [.t 3], none, []⟩, ⟨some 69,
  .len, [.t 68], none, []⟩, ⟨some 70, .bin .eql, [.t 67, .t 69], none, []⟩] [13, 14, 15, 17, 18, 19, 21, 22, 70]) (.cond (.t 70) (.region false [⟨some 22, .mv, [.k (.d (.int .i64
  0))], none, []⟩] [13, 14, 15, 17, 18, 19, 21, 22]) .skip)) (.seq (.region false [⟨some 71, .mv, [.t 15], none, []⟩, ⟨some 72, .bin .eql, [.t 71, .k (.d (.int .i64 0))], none,
  []⟩, ⟨some 73, .mv, [.t 72], none, []⟩, ⟨some 74, .mv, [.t 14], some (73, true), []⟩, ⟨some 75, .bin .eql, [.t 74, .k (.d (.int .i64 (-1)))], some (73, true), []⟩, ⟨some 76,
  .pick, [.t 73, .t 75, .k (.d (.bool false))], none, []⟩, ⟨some 77, .mv, [.t 76], none, []⟩, ⟨some 78, .mv, [.t 17], some (77, true), []⟩, ⟨some 79, .bin .eql, [.t 78, .k (.d
  (.int .i64 0))], some (77, true), []⟩, ⟨some 80, .pick, [.t 77, .t 79, .k (.d (.bool false))], none, []⟩, ⟨some 81, .mv, [.t 80], none, []⟩, ⟨some 82, .mv, [.t 18], some (81,
  true), []⟩, ⟨some 83, .mv, [.t 22], some (81, true), []⟩, ⟨some 84, .bin .eql, [.t 82, .t 83], some (81, true), []⟩, ⟨some 85, .pick, [.t 81, .t 84, .k (.d (.bool false))], none,
  []⟩, ⟨some 86, .mv, [.t 85], none, []⟩, ⟨some 87, .mv, [.t 21], some (86, true), []⟩, ⟨some 88, .bin .eql, [.t 87, .k (.d (.int .i64 0))], some (86, true), []⟩, ⟨some 89, .pick,
  [.t 86, .t 88, .k (.d (.bool false))], none, []⟩, ⟨some 90, .mv, [.t 89], none, []⟩, ⟨some 91, .load 2 true, [.t 13], some (90, true), []⟩, ⟨some 92, .load 2 true, [.t 19], some
  (90, true), []⟩, ⟨some 93, .call 12 false, [.t 91, .t 92], some (90, true), []⟩, ⟨some 94, .pick, [.t 90, .t 93, .k (.d (.bool false))], none, []⟩, ⟨some 95, .mv, [.t 94], none,
  []⟩, ⟨some 96, .call 9 false, [], some (95, true), []⟩, ⟨some 97, .pick, [.t 95, .t 96, .k (.d (.bool false))], none, []⟩, ⟨some 10, .mv, [.t 97], none, []⟩] [10]) .ret)))))))))
def passkeylaw7FlashPartsRr : List RR := [.t 10]
theorem passkeylaw7FlashPartsC : compFn Try.prog 6 passkeylaw7FlashPartsH = some (passkeylaw7FlashPartsRc, passkeylaw7FlashPartsRr, 98) := by kernel_rfl
theorem passkeylaw7FlashPartsOK (a0 : Int) (a1 : List (Int)) (a2 : BitVec 8) (a3 : List (BitVec 8)) (a4 : BitVec 8) (res : Bool) (h : passkeylaw7FlashParts a0 a1 a2 a3 a4 = some res) : CallOK Try.prog 6 [.d (eI a0), .d ((eL 1 eI) a1), .d (eU8 a2), .d ((eL 1 eU8) a3), .d (eU8 a4)] [] (.d (eB res)) [] := by
  unfold passkeylaw7FlashParts at h
  refine callOK passkeylaw7FlashPartsC fm rfl ?_
  simp only [initE, initM, nbor, List.map_cons, List.map_nil, Nat.reduceAdd]
  unfold passkeylaw7FlashPartsRc
  refine rwp_seq fun K1 hK1 => ?_
  refine rwp_region fun K2 hK2 => ?_
  refine st0 128 rfl (ok (mv (.d (eB false)))) ?_
  refine hK2 _ _ ?_
  simp only [thenK, blockK, keepE, updM, List.filter_cons, List.filter_nil, List.nil_append, List.cons_append, List.map_cons, List.map_nil, envE, Mem.get, Nat.reduceEqDiff, reduceIte, Option.isNone_none, Option.isNone_some, Bool.false_eq_true, List.length_cons, List.length_nil, Nat.reduceAdd, Nat.reduceMul]
  refine hK1 _ _ _ ?_
  refine rwp_seq fun K3 hK3 => ?_
  refine rwp_seq fun K4 hK4 => ?_
  refine rwp_region fun K5 hK5 => ?_
  refine st0 192 rfl (ok (mv (.d ((eL 1 eU8) a3)))) ?_
  refine st0 256 rfl (ok (lenL _ _)) ?_
  refine st0 320 rfl (ok (gtrI _ (200 : Int))) ?_
  refine hK5 _ _ ?_
  simp only [thenK, blockK, keepE, updM, List.filter_cons, List.filter_nil, List.nil_append, List.cons_append, List.map_cons, List.map_nil, envE, Mem.get, Nat.reduceEqDiff, reduceIte, Option.isNone_none, Option.isNone_some, Bool.false_eq_true, List.length_cons, List.length_nil, Nat.reduceAdd, Nat.reduceMul]
  refine hK4 _ _ _ ?_
  rcases Bool.eq_false_or_eq_true ((decide ((200 : Int) < (a3.length : Int)))) with h6 | h6
  · replace h := ite_t h h6
    refine rwp_t (isT h6) ?_
    refine rwp_seq fun K7 hK7 => ?_
    refine rwp_region fun K8 hK8 => ?_
    obtain ⟨y9, h10, h⟩ := bind_inv h
    refine st0 384 rfl (call_ok (v := .d (eB y9)) (u := []) ar_nil rfl (passkeylaw7awakeOK  y9 h10) rfl) ?_
    refine st0 448 rfl (ok (mv (.d (eB y9)))) ?_
    refine hK8 _ _ ?_
    simp only [thenK, blockK, keepE, updM, List.filter_cons, List.filter_nil, List.nil_append, List.cons_append, List.map_cons, List.map_nil, envE, Mem.get, Nat.reduceEqDiff, reduceIte, Option.isNone_none, Option.isNone_some, Bool.false_eq_true, List.length_cons, List.length_nil, Nat.reduceAdd, Nat.reduceMul]
    refine hK7 _ _ _ ?_
    refine rwp_ret ?_
    obtain rfl := Option.some.inj h
    try simp only [thenK, blockK, reduceIte]
    exact end_ok trivial (rs_t (v := .d (eB y9)) rfl rs_nil) (en_d (to_d _) en_nil) ou_nil (by first | exact eok rfl rfl rfl rfl trivial | (refine eok ?_ ?_ ?_ ?_ ?_ <;> first | rfl | exact trivial | simp [retM, Mem.get, PV.renL, PV.ren, Blk.ren, comps, rhoR, rhoM, appN, PV.refsL, PV.refs, keys, nodupB, Blk.refs, allIn, Blk.bor]))
  · replace h := ite_f h h6
    refine rwp_f (isF h6) ?_
    refine rwp_skip ?_
    refine hK3 _ _ _ ?_
    refine rwp_seq fun K11 hK11 => ?_
    refine rwp_region fun K12 hK12 => ?_
    refine st0 384 rfl (ok (mv (.d (eI a0)))) ?_
    refine st0 448 rfl (ok (mv (.d ((eL 1 eI) a1)))) ?_
    obtain ⟨y13, h14, h⟩ := bind_inv h
    refine st0 512 rfl (call_ok (v := .d (eTApiFlash y13)) (u := []) (ar_d (eI a0) (ar_d ((eL 1 eI) a1) ar_nil)) rfl (passkeylaw7madeOK a0 a1 y13 h14) rfl) ?_
    refine st1 576 rfl (mem' := [(512, .var .mine [.d (eI (0 : Int)), .nil 1])]) (ok (alc (zs := [.d (eI (0 : Int)), .nil 1]))) rfl ?_
    refine stn 640 rfl (mem' := [(512, .var .mine [.d (eI y13.PageSize), .d ((eL 1 eU8) y13.Bytes)])]) (ok (sto_v (ps' := [.d (eI y13.PageSize), .d ((eL 1 eU8) y13.Bytes)]) rfl rfl rfl rfl)) rfl ?_
    refine hK12 _ _ ?_
    simp only [thenK, blockK, keepE, updM, List.filter_cons, List.filter_nil, List.nil_append, List.cons_append, List.map_cons, List.map_nil, envE, Mem.get, Nat.reduceEqDiff, reduceIte, Option.isNone_none, Option.isNone_some, Bool.false_eq_true, List.length_cons, List.length_nil, Nat.reduceAdd, Nat.reduceMul]
    refine hK11 _ _ _ ?_
    refine rwp_seq fun K15 hK15 => ?_
    refine rwp_region fun K16 hK16 => ?_
    refine st0 704 rfl (ok (mv (.d (eU8 a4)))) ?_
    refine st0 768 rfl (ok (toI8 _)) ?_
    refine st0 832 rfl (ok (mv (.d ((eL 1 eU8) a3)))) ?_
    refine st0 896 rfl (ok (lenL _ _)) ?_
    obtain ⟨v17, h18, h⟩ := lett_inv h
    refine st0e 960 rfl (ok (minI _ _)) (congrArg (fun z => PV.d (eI z)) h18) ?_
    refine st0 1024 rfl (ok (mv (.d (eI v17)))) ?_
    refine hK16 _ _ ?_
    simp only [thenK, blockK, keepE, updM, List.filter_cons, List.filter_nil, List.nil_append, List.cons_append, List.map_cons, List.map_nil, envE, Mem.get, Nat.reduceEqDiff, reduceIte, Option.isNone_none, Option.isNone_some, Bool.false_eq_true, List.length_cons, List.length_nil, Nat.reduceAdd, Nat.reduceMul]
    refine hK15 _ _ _ ?_
    refine rwp_seq fun K19 hK19 => ?_
    refine rwp_region fun K20 hK20 => ?_
    refine st0 1088 rfl (ok (ld_v (v := .d (.agg [eI y13.PageSize, (eL 1 eU8) y13.Bytes])) rfl rfl rfl)) ?_
    refine st0 1152 rfl (ok (mv (.d (eU8 a2)))) ?_
    refine st0 1216 rfl (ok (toI8 _)) ?_
    refine st0 1280 rfl (ok (mv (.d ((eL 1 eU8) a3)))) ?_
    obtain ⟨y21, h22, h⟩ := bind_inv h
    refine st0 1344 rfl (call_ok (v := .tup [.d (eTApiFlash y21.1), .d (eI y21.2.1), .d (eI y21.2.2)]) (u := []) (ar_d (eTApiFlash (TApiFlash.mk y13.PageSize y13.Bytes)) (ar_d (eI (0 : Int)) (ar_d (eI (a2.toNat : Int)) (ar_d ((eL 1 eU8) a3) (ar_d (eI (-1 : Int)) ar_nil))))) rfl (flashProgramOK (TApiFlash.mk y13.PageSize y13.Bytes) (0 : Int) (a2.toNat : Int) a3 (-1 : Int) y21 h22) rfl) ?_
    refine st0 1408 rfl (ok (mv (.tup [.d (eTApiFlash y21.1), .d (eI y21.2.1), .d (eI y21.2.2)]))) ?_
    refine st0 1472 rfl (ok (extr (v := .d (eTApiFlash y21.1)) rfl rfl)) ?_
    refine st0 1536 rfl (ok (extr (v := .d (eI y21.2.1)) rfl rfl)) ?_
    refine st0 1600 rfl (ok (extr (v := .d (eI y21.2.2)) rfl rfl)) ?_
    refine st1 1664 rfl (mem' := [(1600, .var .mine [.d (eI (0 : Int)), .nil 1]), (512, .var .mine [.d (eI y13.PageSize), .d ((eL 1 eU8) y13.Bytes)])]) (ok (alc (zs := [.d (eI (0 : Int)), .nil 1]))) rfl ?_
    refine stn 1728 rfl (mem' := [(1600, .var .mine [.d (eI y21.1.PageSize), .d ((eL 1 eU8) y21.1.Bytes)]), (512, .var .mine [.d (eI y13.PageSize), .d ((eL 1 eU8) y13.Bytes)])]) (ok (sto_v (ps' := [.d (eI y21.1.PageSize), .d ((eL 1 eU8) y21.1.Bytes)]) rfl rfl rfl rfl)) rfl ?_
    refine st0 1792 rfl (ok (mv (.d (eI y21.2.1)))) ?_
    refine st0 1856 rfl (ok (mv (.d (eI y21.2.2)))) ?_
    refine hK20 _ _ ?_
    simp only [thenK, blockK, keepE, updM, List.filter_cons, List.filter_nil, List.nil_append, List.cons_append, List.map_cons, List.map_nil, envE, Mem.get, Nat.reduceEqDiff, reduceIte, Option.isNone_none, Option.isNone_some, Bool.false_eq_true, List.length_cons, List.length_nil, Nat.reduceAdd, Nat.reduceMul]
    refine hK19 _ _ _ ?_
    refine rwp_seq fun K23 hK23 => ?_
    refine rwp_region fun K24 hK24 => ?_
    refine st0 1920 rfl (ok (ld_v (v := .d (.agg [eI y13.PageSize, (eL 1 eU8) y13.Bytes])) rfl rfl rfl)) ?_
    refine st0 1984 rfl (ok (mv (.d (eU8 a2)))) ?_
    refine st0 2048 rfl (ok (toI8 _)) ?_
    refine st0 2112 rfl (ok (mv (.d ((eL 1 eU8) a3)))) ?_
    refine st0 2176 rfl (ok (mv (.d (eI v17)))) ?_
    obtain ⟨y25, h26, h⟩ := bind_inv h
    refine st0 2240 rfl (call_ok (v := .tup [.d (eTApiFlash y25.1), .d (eI y25.2.1), .d (eI y25.2.2)]) (u := []) (ar_d (eTApiFlash (TApiFlash.mk y13.PageSize y13.Bytes)) (ar_d (eI (0 : Int)) (ar_d (eI (a2.toNat : Int)) (ar_d ((eL 1 eU8) a3) (ar_d (eI v17) ar_nil))))) rfl (flashProgramOK (TApiFlash.mk y13.PageSize y13.Bytes) (0 : Int) (a2.toNat : Int) a3 v17 y25 h26) rfl) ?_
    refine st0 2304 rfl (ok (mv (.tup [.d (eTApiFlash y25.1), .d (eI y25.2.1), .d (eI y25.2.2)]))) ?_
    refine st0 2368 rfl (ok (extr (v := .d (eTApiFlash y25.1)) rfl rfl)) ?_
    refine st0 2432 rfl (ok (extr (v := .d (eI y25.2.1)) rfl rfl)) ?_
    refine st0 2496 rfl (ok (extr (v := .d (eI y25.2.2)) rfl rfl)) ?_
    refine st1 2560 rfl (mem' := [(2496, .var .mine [.d (eI (0 : Int)), .nil 1]), (1600, .var .mine [.d (eI y21.1.PageSize), .d ((eL 1 eU8) y21.1.Bytes)]), (512, .var .mine [.d (eI y13.PageSize), .d ((eL 1 eU8) y13.Bytes)])]) (ok (alc (zs := [.d (eI (0 : Int)), .nil 1]))) rfl ?_
    refine stn 2624 rfl (mem' := [(2496, .var .mine [.d (eI y25.1.PageSize), .d ((eL 1 eU8) y25.1.Bytes)]), (1600, .var .mine [.d (eI y21.1.PageSize), .d ((eL 1 eU8) y21.1.Bytes)]), (512, .var .mine [.d (eI y13.PageSize), .d ((eL 1 eU8) y13.Bytes)])]) (ok (sto_v (ps' := [.d (eI y25.1.PageSize), .d ((eL 1 eU8) y25.1.Bytes)]) rfl rfl rfl rfl)) rfl ?_
    refine st0 2688 rfl (ok (mv (.d (eI y25.2.1)))) ?_
    refine st0 2752 rfl (ok (mv (.d (eI y25.2.2)))) ?_
    refine hK24 _ _ ?_
    simp only [thenK, blockK, keepE, updM, List.filter_cons, List.filter_nil, List.nil_append, List.cons_append, List.map_cons, List.map_nil, envE, Mem.get, Nat.reduceEqDiff, reduceIte, Option.isNone_none, Option.isNone_some, Bool.false_eq_true, List.length_cons, List.length_nil, Nat.reduceAdd, Nat.reduceMul]
    refine hK23 _ _ _ ?_
    refine rwp_seq fun K27 hK27 => ?_
    refine rwp_draw fun K28 hK28 => ?_
    refine dr0 2816 rfl (ok (ld_v (v := .d (.agg [eI y25.1.PageSize, (eL 1 eU8) y25.1.Bytes])) rfl rfl rfl)) (by kernel_rfl) ?_
    refine dr0 2880 rfl (ok (mv (.d (eU8 a2)))) (by kernel_rfl) ?_
    refine dr0 2944 rfl (ok (toI8 _)) (by kernel_rfl) ?_
    refine dr0 3008 rfl (ok (mv (.d (eI v17)))) (by kernel_rfl) ?_
    refine dr0 3072 rfl (ok (addI _ _)) (by kernel_rfl) ?_
    refine dr0 3136 rfl (ok (mv (.d ((eL 1 eU8) a3)))) (by kernel_rfl) ?_
    refine dr0 3200 rfl (ok (mv (.d (eI v17)))) (by kernel_rfl) ?_
    obtain ⟨h29, h⟩ := asq_inv h
    refine dr0 3264 rfl (ok (slL_l (xs := a3) (e := eU8) h29)) (by kernel_rfl) ?_
    obtain ⟨y30, h31, h⟩ := bind_inv h
    refine dr0 3328 rfl (call_ok (v := .tup [.d (eTApiFlash y30.1), .d (eI y30.2.1), .d (eI y30.2.2)]) (u := []) (ar_d (eTApiFlash (TApiFlash.mk y25.1.PageSize y25.1.Bytes)) (ar_d (eI (0 : Int)) (ar_d (eI (w64 ((a2.toNat : Int) + v17))) (ar_d ((eL 1 eU8) (dropTake v17.toNat a3.length a3)) (ar_d (eI (-1 : Int)) ar_nil))))) rfl (flashProgramOK (TApiFlash.mk y25.1.PageSize y25.1.Bytes) (0 : Int) (w64 ((a2.toNat : Int) + v17)) (dropTake v17.toNat a3.length a3) (-1 : Int) y30 h31) rfl) (by kernel_rfl) ?_
    refine dr0 3392 rfl (ok (mv (.tup [.d (eTApiFlash y30.1), .d (eI y30.2.1), .d (eI y30.2.2)]))) (by kernel_rfl) ?_
    refine dr0 3456 rfl (ok (extr (v := .d (eTApiFlash y30.1)) rfl rfl)) (by kernel_rfl) ?_
    refine dr0 3520 rfl (ok (extr (v := .d (eI y30.2.1)) rfl rfl)) (by kernel_rfl) ?_
    refine dr0 3584 rfl (ok (extr (v := .d (eI y30.2.2)) rfl rfl)) (by kernel_rfl) ?_
    refine dr1 3648 rfl (mem' := [(3584, .var .mine [.d (eI (0 : Int)), .nil 1]), (2496, .var .mine [.d (eI y25.1.PageSize), .d ((eL 1 eU8) y25.1.Bytes)]), (1600, .var .mine [.d (eI y21.1.PageSize), .d ((eL 1 eU8) y21.1.Bytes)]), (512, .var .mine [.d (eI y13.PageSize), .d ((eL 1 eU8) y13.Bytes)])]) (ok (alc (zs := [.d (eI (0 : Int)), .nil 1]))) rfl (by kernel_rfl) ?_
    refine drn 3712 rfl (mem' := [(3584, .var .mine [.d (eI y30.1.PageSize), .d ((eL 1 eU8) y30.1.Bytes)]), (2496, .var .mine [.d (eI y25.1.PageSize), .d ((eL 1 eU8) y25.1.Bytes)]), (1600, .var .mine [.d (eI y21.1.PageSize), .d ((eL 1 eU8) y21.1.Bytes)]), (512, .var .mine [.d (eI y13.PageSize), .d ((eL 1 eU8) y13.Bytes)])]) (ok (sto_v (ps' := [.d (eI y30.1.PageSize), .d ((eL 1 eU8) y30.1.Bytes)]) rfl rfl rfl rfl)) rfl (by kernel_rfl) ?_
    refine dr0 3776 rfl (ok (mv (.d (eI y30.2.1)))) (by kernel_rfl) ?_
    refine dr0 3840 rfl (ok (mv (.d (eI y30.2.2)))) (by kernel_rfl) ?_
    refine hK28 _ _ ?_
    simp only [thenK, blockK, keepE, updM, List.filter_cons, List.filter_nil, List.nil_append, List.cons_append, List.map_cons, List.map_nil, envE, Mem.get, Nat.reduceEqDiff, reduceIte, Option.isNone_none, Option.isNone_some, Bool.false_eq_true, List.length_cons, List.length_nil, Nat.reduceAdd, Nat.reduceMul]
    refine hK27 _ _ _ ?_
    refine rwp_seq fun K32 hK32 => ?_
    refine rwp_region fun K33 hK33 => ?_
    refine st0 3904 rfl (ok (mv (.d (eI (16 : Int))))) ?_
    refine hK33 _ _ ?_
    simp only [thenK, blockK, keepE, updM, List.filter_cons, List.filter_nil, List.nil_append, List.cons_append, List.map_cons, List.map_nil, envE, Mem.get, Nat.reduceEqDiff, reduceIte, Option.isNone_none, Option.isNone_some, Bool.false_eq_true, List.length_cons, List.length_nil, Nat.reduceAdd, Nat.reduceMul]
    refine hK32 _ _ _ ?_
    refine rwp_join ([], []) 4288 (fun env mem => ∃ (v34 : Int), passkeylaw7FlashPartsJ1 y21 y25 y30 v34 = some res ∧ env = [(13, .ptr 1600 0), (14, .d (eI y21.2.1)), (15, .d (eI y21.2.2)), (17, .d (eI y25.2.1)), (18, .d (eI y25.2.2)), (19, .ptr 3584 0), (21, .d (eI y30.2.2)), (22, .d (eI v34))] ∧ mem = [(1600, .var .mine [.d (eI y21.1.PageSize), .d ((eL 1 eU8) y21.1.Bytes)]), (3584, .var .mine [.d (eI y30.1.PageSize), .d ((eL 1 eU8) y30.1.Bytes)])]) (fun _ _ hI => ?_) (fun K35 hK35 => ?_)
    · obtain ⟨v34, h, rfl, rfl⟩ := hI
      unfold passkeylaw7FlashPartsJ1 at h
      refine rwp_seq fun K36 hK36 => ?_
      refine rwp_region fun K37 hK37 => ?_
      refine st0 4352 rfl (ok (mv (.d (eI y21.2.2)))) ?_
      refine st0 4416 rfl (ok (eqlI _ (0 : Int))) ?_
      refine st0 4480 rfl (ok (mv (.d (eB (y21.2.2 == (0 : Int)))))) ?_
      rcases Bool.eq_false_or_eq_true ((y21.2.2 == (0 : Int))) with h38 | h38
      · replace h := ite_t h h38
        refine stG (isT h38) ?_
        refine st0 4544 rfl (ok (mv (.d (eI y21.2.1)))) ?_
        refine stG (isT h38) ?_
        refine st0 4608 rfl (ok (eqlI _ (-1 : Int))) ?_
        refine st0 4672 rfl (ok (pick_t h38 (.d (eB (y21.2.1 == (-1 : Int)))) _)) ?_
        refine st0 4736 rfl (ok (mv (.d (eB (y21.2.1 == (-1 : Int)))))) ?_
        rcases Bool.eq_false_or_eq_true ((y21.2.1 == (-1 : Int))) with h39 | h39
        · replace h := ite_t h h39
          refine stG (isT h39) ?_
          refine st0 4800 rfl (ok (mv (.d (eI y25.2.1)))) ?_
          refine stG (isT h39) ?_
          refine st0 4864 rfl (ok (eqlI _ (0 : Int))) ?_
          refine st0 4928 rfl (ok (pick_t h39 (.d (eB (y25.2.1 == (0 : Int)))) _)) ?_
          refine st0 4992 rfl (ok (mv (.d (eB (y25.2.1 == (0 : Int)))))) ?_
          rcases Bool.eq_false_or_eq_true ((y25.2.1 == (0 : Int))) with h40 | h40
          · replace h := ite_t h h40
            refine stG (isT h40) ?_
            refine st0 5056 rfl (ok (mv (.d (eI y25.2.2)))) ?_
            refine stG (isT h40) ?_
            refine st0 5120 rfl (ok (mv (.d (eI v34)))) ?_
            refine stG (isT h40) ?_
            refine st0 5184 rfl (ok (eqlI _ _)) ?_
            refine st0 5248 rfl (ok (pick_t h40 (.d (eB (y25.2.2 == v34))) _)) ?_
            refine st0 5312 rfl (ok (mv (.d (eB (y25.2.2 == v34))))) ?_
            rcases Bool.eq_false_or_eq_true ((y25.2.2 == v34)) with h41 | h41
            · replace h := ite_t h h41
              refine stG (isT h41) ?_
              refine st0 5376 rfl (ok (mv (.d (eI y30.2.2)))) ?_
              refine stG (isT h41) ?_
              refine st0 5440 rfl (ok (eqlI _ (0 : Int))) ?_
              refine st0 5504 rfl (ok (pick_t h41 (.d (eB (y30.2.2 == (0 : Int)))) _)) ?_
              refine st0 5568 rfl (ok (mv (.d (eB (y30.2.2 == (0 : Int)))))) ?_
              rcases Bool.eq_false_or_eq_true ((y30.2.2 == (0 : Int))) with h42 | h42
              · replace h := ite_t h h42
                refine stG (isT h42) ?_
                refine st0 5632 rfl (ok (ld_v (v := .d (.agg [eI y21.1.PageSize, (eL 1 eU8) y21.1.Bytes])) rfl rfl rfl)) ?_
                refine stG (isT h42) ?_
                refine st0 5696 rfl (ok (ld_v (v := .d (.agg [eI y30.1.PageSize, (eL 1 eU8) y30.1.Bytes])) rfl rfl rfl)) ?_
                refine stG (isT h42) ?_
                obtain ⟨y43, h44, h⟩ := bind_inv h
                refine st0 5760 rfl (call_ok (v := .d (eB y43)) (u := []) (ar_d (eTApiFlash (TApiFlash.mk y21.1.PageSize y21.1.Bytes)) (ar_d (eTApiFlash (TApiFlash.mk y30.1.PageSize y30.1.Bytes)) ar_nil)) rfl (passkeyref7SameFlashOK (TApiFlash.mk y21.1.PageSize y21.1.Bytes) (TApiFlash.mk y30.1.PageSize y30.1.Bytes) y43 h44) rfl) ?_
                refine st0 5824 rfl (ok (pick_t h42 (.d (eB y43)) _)) ?_
                refine st0 5888 rfl (ok (mv (.d (eB y43)))) ?_
                rcases Bool.eq_false_or_eq_true (y43) with h45 | h45
                · replace h := ite_t h h45
                  refine stG (isT h45) ?_
                  obtain ⟨y46, h47, h⟩ := bind_inv h
                  refine st0 5952 rfl (call_ok (v := .d (eB y46)) (u := []) ar_nil rfl (passkeylaw7awakeOK  y46 h47) rfl) ?_
                  refine st0 6016 rfl (ok (pick_t h45 (.d (eB y46)) _)) ?_
                  refine st0 6080 rfl (ok (mv (.d (eB y46)))) ?_
                  refine hK37 _ _ ?_
                  simp only [thenK, blockK, keepE, updM, List.filter_cons, List.filter_nil, List.nil_append, List.cons_append, List.map_cons, List.map_nil, envE, Mem.get, Nat.reduceEqDiff, reduceIte, Option.isNone_none, Option.isNone_some, Bool.false_eq_true, List.length_cons, List.length_nil, Nat.reduceAdd, Nat.reduceMul]
                  refine hK36 _ _ _ ?_
                  refine rwp_ret ?_
                  obtain rfl := Option.some.inj h
                  try simp only [thenK, blockK, reduceIte]
                  exact end_ok trivial (rs_t (v := .d (eB y46)) rfl rs_nil) (en_d (to_d _) en_nil) ou_nil (by first | exact eok rfl rfl rfl rfl trivial | (refine eok ?_ ?_ ?_ ?_ ?_ <;> first | rfl | exact trivial | simp [retM, Mem.get, PV.renL, PV.ren, Blk.ren, comps, rhoR, rhoM, appN, PV.refsL, PV.refs, keys, nodupB, Blk.refs, allIn, Blk.bor]))
                · replace h := ite_f h h45
                  refine stGN 5952 rfl rfl h45 ?_
                  refine st0 6016 rfl (ok (pick_f h45 _ (.d (eB false)))) ?_
                  refine st0 6080 rfl (ok (mv (.d (eB false)))) ?_
                  refine hK37 _ _ ?_
                  simp only [thenK, blockK, keepE, updM, List.filter_cons, List.filter_nil, List.nil_append, List.cons_append, List.map_cons, List.map_nil, envE, Mem.get, Nat.reduceEqDiff, reduceIte, Option.isNone_none, Option.isNone_some, Bool.false_eq_true, List.length_cons, List.length_nil, Nat.reduceAdd, Nat.reduceMul]
                  refine hK36 _ _ _ ?_
                  refine rwp_ret ?_
                  obtain rfl := Option.some.inj h
                  try simp only [thenK, blockK, reduceIte]
                  exact end_ok trivial (rs_t (v := .d (eB false)) rfl rs_nil) (en_d (to_d _) en_nil) ou_nil (by first | exact eok rfl rfl rfl rfl trivial | (refine eok ?_ ?_ ?_ ?_ ?_ <;> first | rfl | exact trivial | simp [retM, Mem.get, PV.renL, PV.ren, Blk.ren, comps, rhoR, rhoM, appN, PV.refsL, PV.refs, keys, nodupB, Blk.refs, allIn, Blk.bor]))
              · replace h := ite_f h h42
                refine stGN 5632 rfl rfl h42 ?_
                refine stGN 5696 rfl rfl h42 ?_
                refine stGN 5760 rfl rfl h42 ?_
                refine st0 5824 rfl (ok (pick_f h42 _ (.d (eB false)))) ?_
                refine st0 5888 rfl (ok (mv (.d (eB false)))) ?_
                refine stGN 5952 rfl rfl rfl ?_
                refine st0 6016 rfl (ok (pick_f rfl _ (.d (eB false)))) ?_
                refine st0 6080 rfl (ok (mv (.d (eB false)))) ?_
                refine hK37 _ _ ?_
                simp only [thenK, blockK, keepE, updM, List.filter_cons, List.filter_nil, List.nil_append, List.cons_append, List.map_cons, List.map_nil, envE, Mem.get, Nat.reduceEqDiff, reduceIte, Option.isNone_none, Option.isNone_some, Bool.false_eq_true, List.length_cons, List.length_nil, Nat.reduceAdd, Nat.reduceMul]
                refine hK36 _ _ _ ?_
                refine rwp_ret ?_
                obtain rfl := Option.some.inj h
                try simp only [thenK, blockK, reduceIte]
                exact end_ok trivial (rs_t (v := .d (eB false)) rfl rs_nil) (en_d (to_d _) en_nil) ou_nil (by first | exact eok rfl rfl rfl rfl trivial | (refine eok ?_ ?_ ?_ ?_ ?_ <;> first | rfl | exact trivial | simp [retM, Mem.get, PV.renL, PV.ren, Blk.ren, comps, rhoR, rhoM, appN, PV.refsL, PV.refs, keys, nodupB, Blk.refs, allIn, Blk.bor]))
            · replace h := ite_f h h41
              refine stGN 5376 rfl rfl h41 ?_
              refine stGN 5440 rfl rfl h41 ?_
              refine st0 5504 rfl (ok (pick_f h41 _ (.d (eB false)))) ?_
              refine st0 5568 rfl (ok (mv (.d (eB false)))) ?_
              refine stGN 5632 rfl rfl rfl ?_
              refine stGN 5696 rfl rfl rfl ?_
              refine stGN 5760 rfl rfl rfl ?_
              refine st0 5824 rfl (ok (pick_f rfl _ (.d (eB false)))) ?_
              refine st0 5888 rfl (ok (mv (.d (eB false)))) ?_
              refine stGN 5952 rfl rfl rfl ?_
              refine st0 6016 rfl (ok (pick_f rfl _ (.d (eB false)))) ?_
              refine st0 6080 rfl (ok (mv (.d (eB false)))) ?_
              refine hK37 _ _ ?_
              simp only [thenK, blockK, keepE, updM, List.filter_cons, List.filter_nil, List.nil_append, List.cons_append, List.map_cons, List.map_nil, envE, Mem.get, Nat.reduceEqDiff, reduceIte, Option.isNone_none, Option.isNone_some, Bool.false_eq_true, List.length_cons, List.length_nil, Nat.reduceAdd, Nat.reduceMul]
              refine hK36 _ _ _ ?_
              refine rwp_ret ?_
              obtain rfl := Option.some.inj h
              try simp only [thenK, blockK, reduceIte]
              exact end_ok trivial (rs_t (v := .d (eB false)) rfl rs_nil) (en_d (to_d _) en_nil) ou_nil (by first | exact eok rfl rfl rfl rfl trivial | (refine eok ?_ ?_ ?_ ?_ ?_ <;> first | rfl | exact trivial | simp [retM, Mem.get, PV.renL, PV.ren, Blk.ren, comps, rhoR, rhoM, appN, PV.refsL, PV.refs, keys, nodupB, Blk.refs, allIn, Blk.bor]))
          · replace h := ite_f h h40
            refine stGN 5056 rfl rfl h40 ?_
            refine stGN 5120 rfl rfl h40 ?_
            refine stGN 5184 rfl rfl h40 ?_
            refine st0 5248 rfl (ok (pick_f h40 _ (.d (eB false)))) ?_
            refine st0 5312 rfl (ok (mv (.d (eB false)))) ?_
            refine stGN 5376 rfl rfl rfl ?_
            refine stGN 5440 rfl rfl rfl ?_
            refine st0 5504 rfl (ok (pick_f rfl _ (.d (eB false)))) ?_
            refine st0 5568 rfl (ok (mv (.d (eB false)))) ?_
            refine stGN 5632 rfl rfl rfl ?_
            refine stGN 5696 rfl rfl rfl ?_
            refine stGN 5760 rfl rfl rfl ?_
            refine st0 5824 rfl (ok (pick_f rfl _ (.d (eB false)))) ?_
            refine st0 5888 rfl (ok (mv (.d (eB false)))) ?_
            refine stGN 5952 rfl rfl rfl ?_
            refine st0 6016 rfl (ok (pick_f rfl _ (.d (eB false)))) ?_
            refine st0 6080 rfl (ok (mv (.d (eB false)))) ?_
            refine hK37 _ _ ?_
            simp only [thenK, blockK, keepE, updM, List.filter_cons, List.filter_nil, List.nil_append, List.cons_append, List.map_cons, List.map_nil, envE, Mem.get, Nat.reduceEqDiff, reduceIte, Option.isNone_none, Option.isNone_some, Bool.false_eq_true, List.length_cons, List.length_nil, Nat.reduceAdd, Nat.reduceMul]
            refine hK36 _ _ _ ?_
            refine rwp_ret ?_
            obtain rfl := Option.some.inj h
            try simp only [thenK, blockK, reduceIte]
            exact end_ok trivial (rs_t (v := .d (eB false)) rfl rs_nil) (en_d (to_d _) en_nil) ou_nil (by first | exact eok rfl rfl rfl rfl trivial | (refine eok ?_ ?_ ?_ ?_ ?_ <;> first | rfl | exact trivial | simp [retM, Mem.get, PV.renL, PV.ren, Blk.ren, comps, rhoR, rhoM, appN, PV.refsL, PV.refs, keys, nodupB, Blk.refs, allIn, Blk.bor]))
        · replace h := ite_f h h39
          refine stGN 4800 rfl rfl h39 ?_
          refine stGN 4864 rfl rfl h39 ?_
          refine st0 4928 rfl (ok (pick_f h39 _ (.d (eB false)))) ?_
          refine st0 4992 rfl (ok (mv (.d (eB false)))) ?_
          refine stGN 5056 rfl rfl rfl ?_
          refine stGN 5120 rfl rfl rfl ?_
          refine stGN 5184 rfl rfl rfl ?_
          refine st0 5248 rfl (ok (pick_f rfl _ (.d (eB false)))) ?_
          refine st0 5312 rfl (ok (mv (.d (eB false)))) ?_
          refine stGN 5376 rfl rfl rfl ?_
          refine stGN 5440 rfl rfl rfl ?_
          refine st0 5504 rfl (ok (pick_f rfl _ (.d (eB false)))) ?_
          refine st0 5568 rfl (ok (mv (.d (eB false)))) ?_
          refine stGN 5632 rfl rfl rfl ?_
          refine stGN 5696 rfl rfl rfl ?_
          refine stGN 5760 rfl rfl rfl ?_
          refine st0 5824 rfl (ok (pick_f rfl _ (.d (eB false)))) ?_
          refine st0 5888 rfl (ok (mv (.d (eB false)))) ?_
          refine stGN 5952 rfl rfl rfl ?_
          refine st0 6016 rfl (ok (pick_f rfl _ (.d (eB false)))) ?_
          refine st0 6080 rfl (ok (mv (.d (eB false)))) ?_
          refine hK37 _ _ ?_
          simp only [thenK, blockK, keepE, updM, List.filter_cons, List.filter_nil, List.nil_append, List.cons_append, List.map_cons, List.map_nil, envE, Mem.get, Nat.reduceEqDiff, reduceIte, Option.isNone_none, Option.isNone_some, Bool.false_eq_true, List.length_cons, List.length_nil, Nat.reduceAdd, Nat.reduceMul]
          refine hK36 _ _ _ ?_
          refine rwp_ret ?_
          obtain rfl := Option.some.inj h
          try simp only [thenK, blockK, reduceIte]
          exact end_ok trivial (rs_t (v := .d (eB false)) rfl rs_nil) (en_d (to_d _) en_nil) ou_nil (by first | exact eok rfl rfl rfl rfl trivial | (refine eok ?_ ?_ ?_ ?_ ?_ <;> first | rfl | exact trivial | simp [retM, Mem.get, PV.renL, PV.ren, Blk.ren, comps, rhoR, rhoM, appN, PV.refsL, PV.refs, keys, nodupB, Blk.refs, allIn, Blk.bor]))
      · replace h := ite_f h h38
        refine stGN 4544 rfl rfl h38 ?_
        refine stGN 4608 rfl rfl h38 ?_
        refine st0 4672 rfl (ok (pick_f h38 _ (.d (eB false)))) ?_
        refine st0 4736 rfl (ok (mv (.d (eB false)))) ?_
        refine stGN 4800 rfl rfl rfl ?_
        refine stGN 4864 rfl rfl rfl ?_
        refine st0 4928 rfl (ok (pick_f rfl _ (.d (eB false)))) ?_
        refine st0 4992 rfl (ok (mv (.d (eB false)))) ?_
        refine stGN 5056 rfl rfl rfl ?_
        refine stGN 5120 rfl rfl rfl ?_
        refine stGN 5184 rfl rfl rfl ?_
        refine st0 5248 rfl (ok (pick_f rfl _ (.d (eB false)))) ?_
        refine st0 5312 rfl (ok (mv (.d (eB false)))) ?_
        refine stGN 5376 rfl rfl rfl ?_
        refine stGN 5440 rfl rfl rfl ?_
        refine st0 5504 rfl (ok (pick_f rfl _ (.d (eB false)))) ?_
        refine st0 5568 rfl (ok (mv (.d (eB false)))) ?_
        refine stGN 5632 rfl rfl rfl ?_
        refine stGN 5696 rfl rfl rfl ?_
        refine stGN 5760 rfl rfl rfl ?_
        refine st0 5824 rfl (ok (pick_f rfl _ (.d (eB false)))) ?_
        refine st0 5888 rfl (ok (mv (.d (eB false)))) ?_
        refine stGN 5952 rfl rfl rfl ?_
        refine st0 6016 rfl (ok (pick_f rfl _ (.d (eB false)))) ?_
        refine st0 6080 rfl (ok (mv (.d (eB false)))) ?_
        refine hK37 _ _ ?_
        simp only [thenK, blockK, keepE, updM, List.filter_cons, List.filter_nil, List.nil_append, List.cons_append, List.map_cons, List.map_nil, envE, Mem.get, Nat.reduceEqDiff, reduceIte, Option.isNone_none, Option.isNone_some, Bool.false_eq_true, List.length_cons, List.length_nil, Nat.reduceAdd, Nat.reduceMul]
        refine hK36 _ _ _ ?_
        refine rwp_ret ?_
        obtain rfl := Option.some.inj h
        try simp only [thenK, blockK, reduceIte]
        exact end_ok trivial (rs_t (v := .d (eB false)) rfl rs_nil) (en_d (to_d _) en_nil) ou_nil (by first | exact eok rfl rfl rfl rfl trivial | (refine eok ?_ ?_ ?_ ?_ ?_ <;> first | rfl | exact trivial | simp [retM, Mem.get, PV.renL, PV.ren, Blk.ren, comps, rhoR, rhoM, appN, PV.refsL, PV.refs, keys, nodupB, Blk.refs, allIn, Blk.bor]))
    · refine rwp_seq fun K48 hK48 => ?_
      refine rwp_region fun K49 hK49 => ?_
      refine st0 3968 rfl (ok (mv (.d (eI v17)))) ?_
      refine st0 4032 rfl (ok (mv (.d ((eL 1 eU8) a3)))) ?_
      refine st0 4096 rfl (ok (lenL _ _)) ?_
      refine st0 4160 rfl (ok (eqlI _ _)) ?_
      refine hK49 _ _ ?_
      simp only [thenK, blockK, keepE, updM, List.filter_cons, List.filter_nil, List.nil_append, List.cons_append, List.map_cons, List.map_nil, envE, Mem.get, Nat.reduceEqDiff, reduceIte, Option.isNone_none, Option.isNone_some, Bool.false_eq_true, List.length_cons, List.length_nil, Nat.reduceAdd, Nat.reduceMul]
      refine hK48 _ _ _ ?_
      rcases Bool.eq_false_or_eq_true ((v17 == (a3.length : Int))) with h50 | h50
      · replace h := ite_t h h50
        refine rwp_t (isT h50) ?_
        refine rwp_region fun K51 hK51 => ?_
        refine st0 4224 rfl (ok (mv (.d (eI (0 : Int))))) ?_
        refine hK51 _ _ ?_
        simp only [thenK, blockK, keepE, updM, List.filter_cons, List.filter_nil, List.nil_append, List.cons_append, List.map_cons, List.map_nil, envE, Mem.get, Nat.reduceEqDiff, reduceIte, Option.isNone_none, Option.isNone_some, Bool.false_eq_true, List.length_cons, List.length_nil, Nat.reduceAdd, Nat.reduceMul]
        exact hK35 _ _ _ ⟨_, _, Settled.refl, _, _, ⟨_, h, rfl, rfl⟩, ⟨rfl, ⟨⟨rfl, rfl⟩, ⟨⟨rfl, rfl⟩, ⟨⟨rfl, rfl⟩, ⟨⟨rfl, rfl⟩, ⟨⟨rfl, rfl⟩, ⟨⟨rfl, rfl⟩, ⟨⟨rfl, rfl⟩, ⟨⟨rfl, rfl⟩, trivial⟩⟩⟩⟩⟩⟩⟩⟩, ⟨⟨rfl, rfl⟩, ⟨⟨rfl, rfl⟩, trivial⟩⟩⟩, rfl⟩
      · replace h := ite_f h h50
        refine rwp_f (isF h50) ?_
        refine rwp_skip ?_
        exact hK35 _ _ _ ⟨_, _, Settled.refl, _, _, ⟨_, h, rfl, rfl⟩, ⟨rfl, ⟨⟨rfl, rfl⟩, ⟨⟨rfl, rfl⟩, ⟨⟨rfl, rfl⟩, ⟨⟨rfl, rfl⟩, ⟨⟨rfl, rfl⟩, ⟨⟨rfl, rfl⟩, ⟨⟨rfl, rfl⟩, ⟨⟨rfl, rfl⟩, trivial⟩⟩⟩⟩⟩⟩⟩⟩, ⟨⟨rfl, rfl⟩, ⟨⟨rfl, rfl⟩, trivial⟩⟩⟩, rfl⟩

end Go.Proofs.Ty
