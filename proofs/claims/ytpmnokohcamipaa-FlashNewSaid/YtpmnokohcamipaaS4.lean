/- Each Go function comes to what its plain function says. PRINTED by a program of this session (ty.py). -/
import Derived.Test.YtpmnokohcamipaaS3
set_option linter.unusedVariables false
set_option linter.unusedSimpArgs false
set_option maxHeartbeats 4000000
set_option maxRecDepth 10000
namespace Go.Proofs.Ty
open Go Go.RW Go.Proofs
/-- passkey/passkeylaw7.FlashNew -/
def passkeylaw7FlashNewH : Hints := ⟨[(0, [0, 1, 2, 7]), (1, [0, 1, 2, 7, 20]), (2, [8]), (3, [0, 1, 2, 7, 9]), (4, [0, 1, 2, 7, 9, 10, 11]), (5, [0, 1, 7, 10, 11, 12, 13]), (6, [0, 1, 7, 10, 11, 12, 13, 14]), (7, [0, 1, 7, 10, 11, 12, 13, 14, 59]), (8, [0, 1, 7, 10, 11, 12, 13, 14]), (9, [7, 10, 11, 12, 13, 14, 15, 16]), (10, [8])], []⟩
def passkeylaw7FlashNewRc : RCode :=
  .seq (.region false [⟨some 7, .box, [.t 3], none, []⟩, ⟨some 8, .mv, [.k (.d (.bool false))], none, []⟩] [0, 1, 2, 7]) (.seq (.seq (.region false [⟨some 17, .fa 1, [.t 7], none,
  []⟩, ⟨some 18, .load 1 false, [.t 17], none, []⟩, ⟨some 19, .len, [.t 18], none, []⟩, ⟨some 20, .bin .gtr, [.t 19, .k (.d (.int .i64 5000))], none, []⟩] [0, 1, 2, 7, 20]) (.cond
  (.t 20) (.seq (.region false [⟨some 21, .call 9 false, [], none, []⟩, ⟨some 8, .mv, [.t 21], none, []⟩] [8]) .ret) .skip)) (.seq (.region false [⟨some 22, .bslice 1 false 5 [.d
  (.int .i64 0)] [0, 1, 2, 3, 4], [.k (.d (.int .i64 511)), .k (.d (.int .i64 512)), .k (.d (.int .i64 513)), .k (.d (.int .i64 700)), .k (.d (.int .i64 0))], none, []⟩, ⟨some 23,
  .mv, [.t 2], none, []⟩, ⟨some 24, .bin .and, [.t 23, .k (.d (.int .i64 7))], none, []⟩, ⟨some 25, .bin .rem, [.t 24, .k (.d (.int .i64 5))], none, []⟩, ⟨some 26, .ia 1, [.t 22,
  .t 25], none, []⟩, ⟨some 27, .load 1 false, [.t 26], none, []⟩, ⟨some 9, .mv, [.t 27], none, []⟩] [0, 1, 2, 7, 9]) (.seq (.region false [⟨some 29, .mv, [.t 9], none, []⟩, ⟨some
  30, .mv, [.t 2], none, []⟩, ⟨some 31, .bin .shr, [.t 30, .k (.d (.int .u64 3))], none, []⟩, ⟨some 32, .bin .and, [.t 31, .k (.d (.int .i64 15))], none, []⟩, ⟨some 33, .bin .sub,
  [.t 32, .k (.d (.int .i64 2))], none, []⟩, ⟨some 34, .call 10 true, [.t 29, .t 33], none, []⟩, ⟨some 28, .mv, [.t 34], none, []⟩, ⟨some 35, .ext 0, [.t 28], none, []⟩, ⟨some 36,
  .ext 1, [.t 28], none, []⟩, ⟨some 10, .alloc [.d (.int .i64 0), .nil 1], [], none, []⟩, ⟨none, .store 2, [.t 10, .t 35], none, []⟩, ⟨some 11, .mv, [.t 36], none, []⟩] [0, 1, 2,
  7, 9, 10, 11]) (.seq (.region false [⟨some 38, .mv, [.t 9], none, []⟩, ⟨some 39, .mv, [.t 2], none, []⟩, ⟨some 40, .bin .shr, [.t 39, .k (.d (.int .u64 3))], none, []⟩, ⟨some 41,
  .bin .and, [.t 40, .k (.d (.int .i64 15))], none, []⟩, ⟨some 42, .bin .sub, [.t 41, .k (.d (.int .i64 2))], none, []⟩, ⟨some 43, .call 11 true, [.t 38, .t 42], none, []⟩, ⟨some
  37, .mv, [.t 43], none, []⟩, ⟨some 44, .ext 0, [.t 37], none, []⟩, ⟨some 45, .ext 1, [.t 37], none, []⟩, ⟨some 12, .alloc [.d (.int .i64 0), .nil 1], [], none, []⟩, ⟨none, .store
  2, [.t 12, .t 44], none, []⟩, ⟨some 13, .mv, [.t 45], none, []⟩] [0, 1, 7, 10, 11, 12, 13]) (.seq (.region false [⟨some 14, .mv, [.k (.d (.int .i64 0))], none, []⟩] [0, 1, 7, 10,
  11, 12, 13, 14]) (.seq (.seq (.region false [⟨some 46, .mv, [.t 0], none, []⟩, ⟨some 47, .bin .lss, [.t 46, .k (.d (.int .i64 512))], none, []⟩, ⟨some 48, .mv, [.t 47], none,
  []⟩, ⟨some 49, .mv, [.t 0], some (48, false), []⟩, ⟨some 50, .bin .gtr, [.t 49, .k (.d (.int .i64 8192))], some (48, false), []⟩, ⟨some 51, .pick, [.t 48, .k (.d (.bool true)),
  .t 50], none, []⟩, ⟨some 52, .mv, [.t 51], none, []⟩, ⟨some 53, .mv, [.t 1], some (52, false), []⟩, ⟨some 54, .bin .lss, [.t 53, .k (.d (.int .i64 1))], some (52, false), []⟩,
  ⟨some 55, .pick, [.t 52, .k (.d (.bool true)), .t 54], none, []⟩, ⟨some 56, .mv, [.t 55], none, []⟩, ⟨some 57, .mv, [.t 1], some (56, false), []⟩, ⟨some 58, .bin .gtr, [.t 57, .k
  (.d (.int .i64 8))], some (56, false), []⟩, ⟨some 59, .pick, [.t 56, .k (.d (.bool true)), .t 58], none, []⟩] [0, 1, 7, 10, 11, 12, 13, 14, 59]) (.cond (.t 59) (.region false
  [⟨some 14, .mv, [.k (.d (.int .i64 9))], none, []⟩] [0, 1, 7, 10, 11, 12, 13, 14]) .skip)) (.seq (.region false [⟨some 61, .mv, [.t 0], none, []⟩, ⟨some 62, .mv, [.t 1], none,
  []⟩, ⟨some 63, .call 10 true, [.t 61, .t 62], none, []⟩, ⟨some 60, .mv, [.t 63], none, []⟩, ⟨some 64, .ext 0, [.t 60], none, []⟩, ⟨some 65, .ext 1, [.t 60], none, []⟩, ⟨some 15,
  .alloc [.d (.int .i64 0), .nil 1], [], none, []⟩, ⟨none, .store 2, [.t 15, .t 64], none, []⟩, ⟨some 16, .mv, [.t 65], none, []⟩] [7, 10, 11, 12, 13, 14, 15, 16]) (.seq (.region
  true [⟨some 66, .mv, [.t 11], none, []⟩, ⟨some 67, .mv, [.t 13], none, []⟩, ⟨some 68, .bin .eql, [.t 66, .t 67], none, [0, 1]⟩, ⟨some 69, .mv, [.t 68], none, [0, 1, 2]⟩, ⟨some
  70, .load 2 true, [.t 10], some (69, true), [0, 1, 2, 3]⟩, ⟨some 71, .load 2 true, [.t 12], some (69, true), [0, 1, 2, 3]⟩, ⟨some 72, .call 12 false, [.t 70, .t 71], some (69,
  true), [0, 1, 2, 3, 4, 5]⟩, ⟨some 73, .pick, [.t 69, .t 72, .k (.d (.bool false))], none, [0, 1, 2, 3, 4, 5, 6]⟩, ⟨some 74, .mv, [.t 73], none, [0, 1, 2, 3, 4, 5, 6, 7]⟩, ⟨some
  75, .mv, [.t 16], some (74, true), [0, 1, 2, 3, 4, 5, 6, 7, 8]⟩, ⟨some 76, .mv, [.t 14], some (74, true), [0, 1, 2, 3, 4, 5, 6, 7, 8]⟩, ⟨some 77, .bin .eql, [.t 75, .t 76], some
  (74, true), [0, 1, 2, 3, 4, 5, 6, 7, 8, 9, 10]⟩, ⟨some 78, .pick, [.t 74, .t 77, .k (.d (.bool false))], none, [0, 1, 2, 3, 4, 5, 6, 7, 8, 9, 10, 11]⟩, ⟨some 79, .mv, [.t 78],
  none, [0, 1, 2, 3, 4, 5, 6, 7, 8, 9, 10, 11, 12]⟩, ⟨some 80, .mv, [.t 14], some (79, true), [0, 1, 2, 3, 4, 5, 6, 7, 8, 9, 10, 11, 12, 13]⟩, ⟨some 81, .bin .eql, [.t 80, .k (.d
  (.int .i64 0))], some (79, true), [0, 1, 2, 3, 4, 5, 6, 7, 8, 9, 10, 11, 12, 13, 14]⟩, ⟨some 82, .mv, [.t 81], some (79, true), [0, 1, 2, 3, 4, 5, 6, 7, 8, 9, 10, 11, 12, 13, 14,
  15]⟩, ⟨some 83, .fa 1, [.t 15], some (82, false), [0, 1, 2, 3, 4, 5, 6, 7, 8, 9, 10, 11, 12, 13, 14, 15, 16]⟩, ⟨some 84, .load 1 false, [.t 83], some (82, false), [0, 1, 2, 3, 4,
  5, 6, 7, 8, 9, 10, 11, 12, 13, 14, 15, 16, 17]⟩, ⟨some 85, .len, [.t 84], some (82, false), [0, 1, 2, 3, 4, 5, 6, 7, 8, 9, 10, 11, 12, 13, 14, 15, 16, 17, 18]⟩, ⟨some 86, .bin
  .eql, [.t 85, .k (.d (.int .i64 0))], some (82, false), [0, 1, 2, 3, 4, 5, 6, 7, 8, 9, 10, 11, 12, 13, 14, 15, 16, 17, 18, 19]⟩, ⟨some 87, .pick, [.t 82, .k (.d (.bool true)), .t
  86], some (79, true), [0, 1, 2, 3, 4, 5, 6, 7, 8, 9, 10, 11, 12, 13, 14, 15, 16, 17, 18, 19, 20]⟩, ⟨some 88, .pick, [.t 79, .t 87, .k (.d (.bool false))], none, [0, 1, 2, 3, 4,
  5, 6, 7, 8, 9, 10, 11, 12, 13, 14, 15, 16, 17, 18, 19, 20, 21]⟩, ⟨some 89, .mv, [.t 88], none, [0, 1, 2, 3, 4, 5, 6, 7, 8, 9, 10, 11, 12, 13, 14, 15, 16, 17, 18, 19, 20, 21,
  22]⟩, ⟨some 90, .load 2 true, [.t 7], some (89, true), [0, 1, 2, 3, 4, 5, 6, 7, 8, 9, 10, 11, 12, 13, 14, 15, 16, 17, 18, 19, 20, 21, 22, 23]⟩, ⟨some 91, .call 13 false, [.t 90],
  some (89, true), [0, 1, 2, 3, 4, 5, 6, 7, 8, 9, 10, 11, 12, 13, 14, 15, 16, 17, 18, 19, 20, 21, 22, 23, 24]⟩, ⟨some 92, .load 2 true, [.t 7], some (89, true), [0, 1, 2, 3, 4, 5,
  6, 7, 8, 9, 10, 11, 12, 13, 14, 15, 16, 17, 18, 19, 20, 21, 22, 23]⟩, ⟨some 93, .call 14 false, [.t 92], some (89, true), [0, 1, 2, 3, 4, 5, 6, 7, 8, 9, 10, 11, 12, 13, 14, 15,
  16, 17, 18, 19, 20, 21, 22, 23, 24, 25, 26]⟩, ⟨some 94, .bin .eql, [.t 91, .t 93], some (89, true), [0, 1, 2, 3, 4, 5, 6, 7, 8, 9, 10, 11, 12, 13, 14, 15, 16, 17, 18, 19, 20, 21,
  22, 23, 24, 25, 26, 27]⟩, ⟨some 95, .pick, [.t 89, .t 94, .k (.d (.bool false))], none, [0, 1, 2, 3, 4, 5, 6, 7, 8, 9, 10, 11, 12, 13, 14, 15, 16, 17, 18, 19, 20, 21, 22, 23, 24,
  25, 26, 27, 28]⟩, ⟨some 96, .mv, [.t 95], none, [0, 1, 2, 3, 4, 5, 6, 7, 8, 9, 10, 11, 12, 13, 14, 15, 16, 17, 18, 19, 20, 21, 22, 23, 24, 25, 26, 27, 28, 29]⟩, ⟨some 97, .call 9
  false, [], some (96, true), [0, 1, 2, 3, 4, 5, 6, 7, 8, 9, 10, 11, 12, 13, 14, 15, 16, 17, 18, 19, 20, 21, 22, 23, 24, 25, 26, 27, 28, 29, 30]⟩, ⟨some 98, .pick, [.t 96, .t 97,
  .k (.d (.bool false))], none, [0, 1, 2, 3, 4, 5, 6, 7, 8, 9, 10, 11, 12, 13, 14, 15, 16, 17, 18, 19, 20, 21, 22, 23, 24, 25, 26, 27, 28, 29, 30, 31]⟩, ⟨some 8, .mv, [.t 98],
  none, [0, 1, 2, 3, 4, 5, 6, 7, 8, 9, 10, 11, 12, 13, 14, 15, 16, 17, 18, 19, 20, 21, 22, 23, 24, 25, 26, 27, 28, 29, 30, 31, 32]⟩] [8]) .ret))))))))
def passkeylaw7FlashNewRr : List RR := [.t 8]
theorem passkeylaw7FlashNewC : compFn Try.prog 3 passkeylaw7FlashNewH = some (passkeylaw7FlashNewRc, passkeylaw7FlashNewRr, 99) := by kernel_rfl
theorem passkeylaw7FlashNewOK (a0 : Int) (a1 : Int) (a2 : Int) (a3 : TApiFlash) (res : Bool) (h : passkeylaw7FlashNew a0 a1 a2 a3 = some res) : CallOK Try.prog 3 [.d (eI a0), .d (eI a1), .d (eI a2), .d (eTApiFlash a3)] [] (.d (eB res)) [] := by
  unfold passkeylaw7FlashNew at h
  refine callOK passkeylaw7FlashNewC fm rfl ?_
  simp only [initE, initM, nbor, List.map_cons, List.map_nil, Nat.reduceAdd]
  unfold passkeylaw7FlashNewRc
  refine rwp_seq fun K1 hK1 => ?_
  refine rwp_region fun K2 hK2 => ?_
  refine st1 128 rfl (mem' := [(64, .var .mine [.d (eI a3.PageSize), .d ((eL 1 eU8) a3.Bytes)])]) (ok (bx (ps := [.d (eI a3.PageSize), .d ((eL 1 eU8) a3.Bytes)]) rfl rfl)) rfl ?_
  refine st0 192 rfl (ok (mv (.d (eB false)))) ?_
  refine hK2 _ _ ?_
  simp only [thenK, blockK, keepE, updM, List.filter_cons, List.filter_nil, List.nil_append, List.cons_append, List.map_cons, List.map_nil, envE, Mem.get, Nat.reduceEqDiff, reduceIte, Option.isNone_none, Option.isNone_some, Bool.false_eq_true, List.length_cons, List.length_nil, Nat.reduceAdd, Nat.reduceMul]
  refine hK1 _ _ _ ?_
  refine rwp_seq fun K3 hK3 => ?_
  refine rwp_seq fun K4 hK4 => ?_
  refine rwp_region fun K5 hK5 => ?_
  refine st0 256 rfl (ok (fa_k 1 rfl)) ?_
  refine st0 320 rfl (ok (ld_v (v := .d ((eL 1 eU8) a3.Bytes)) rfl rfl rfl)) ?_
  refine st0 384 rfl (ok (lenL _ _)) ?_
  refine st0 448 rfl (ok (gtrI _ (5000 : Int))) ?_
  refine hK5 _ _ ?_
  simp only [thenK, blockK, keepE, updM, List.filter_cons, List.filter_nil, List.nil_append, List.cons_append, List.map_cons, List.map_nil, envE, Mem.get, Nat.reduceEqDiff, reduceIte, Option.isNone_none, Option.isNone_some, Bool.false_eq_true, List.length_cons, List.length_nil, Nat.reduceAdd, Nat.reduceMul]
  refine hK4 _ _ _ ?_
  rcases Bool.eq_false_or_eq_true ((decide ((5000 : Int) < (a3.Bytes.length : Int)))) with h6 | h6
  · replace h := ite_t h h6
    refine rwp_t (isT h6) ?_
    refine rwp_seq fun K7 hK7 => ?_
    refine rwp_region fun K8 hK8 => ?_
    obtain ⟨y9, h10, h⟩ := bind_inv h
    refine st0 512 rfl (call_ok (v := .d (eB y9)) (u := []) ar_nil rfl (passkeylaw7awakeOK  y9 h10) rfl) ?_
    refine st0 576 rfl (ok (mv (.d (eB y9)))) ?_
    refine hK8 _ _ ?_
    simp only [thenK, blockK, keepE, updM, List.filter_cons, List.filter_nil, List.nil_append, List.cons_append, List.map_cons, List.map_nil, envE, Mem.get, Nat.reduceEqDiff, reduceIte, Option.isNone_none, Option.isNone_some, Bool.false_eq_true, List.length_cons, List.length_nil, Nat.reduceAdd, Nat.reduceMul]
    refine hK7 _ _ _ ?_
    refine rwp_ret ?_
    obtain rfl := Option.some.inj h
    try simp only [thenK, blockK, reduceIte]
    exact Or.inl (end_ok trivial (rs_t (v := .d (eB y9)) rfl rs_nil) (en_d (to_d _) en_nil) ou_nil (by first | exact eok rfl rfl rfl rfl trivial | (refine eok ?_ ?_ ?_ ?_ ?_ <;> first | rfl | exact trivial | simp [retM, Mem.get, PV.renL, PV.ren, Blk.ren, comps, rhoR, rhoM, appN, PV.refsL, PV.refs, keys, nodupB, Blk.refs, allIn, Blk.bor])))
  · replace h := ite_f h h6
    refine rwp_f (isF h6) ?_
    refine rwp_skip ?_
    refine hK3 _ _ _ ?_
    refine rwp_seq fun K11 hK11 => ?_
    refine rwp_region fun K12 hK12 => ?_
    refine st1 512 rfl (mem' := [(448, .row true 1 (([(511 : Int), (512 : Int), (513 : Int), (700 : Int), (0 : Int)] : List (Int)).map eI)), (64, .var .mine [.d (eI a3.PageSize), .d ((eL 1 eU8) a3.Bytes)])]) (ok (bsl (e := eI) (ys := ([(511 : Int), (512 : Int), (513 : Int), (700 : Int), (0 : Int)] : List (Int))) rfl rfl rfl)) rfl ?_
    refine st0 576 rfl (ok (mv (.d (eI a2)))) ?_
    refine st0 640 rfl (ok (andI _ (7 : Int))) ?_
    refine st0 704 rfl (ok (remI _ (5 : Int) (by decide))) ?_
    obtain ⟨h13, h⟩ := asq_inv h
    refine st0 768 rfl (ok (iaR (xs := ([(511 : Int), (512 : Int), (513 : Int), (700 : Int), (0 : Int)] : List (Int))) (e := eI) rfl rfl h13)) ?_
    refine st0 832 rfl (ok (ld_r (e := eI) (xs := ([(511 : Int), (512 : Int), (513 : Int), (700 : Int), (0 : Int)] : List (Int))) (0 : Int) rfl rfl (by have := h13; simp at this ⊢; omega) rfl)) ?_
    refine st0 896 rfl (ok (mv (.d (eI (([(511 : Int), (512 : Int), (513 : Int), (700 : Int), (0 : Int)] : List (Int)).getD (0 + ((ibits .and .i64 a2 (7 : Int)).tmod (5 : Int)).toNat) (0 : Int)))))) ?_
    refine hK12 _ _ ?_
    simp only [thenK, blockK, keepE, updM, List.filter_cons, List.filter_nil, List.nil_append, List.cons_append, List.map_cons, List.map_nil, envE, Mem.get, Nat.reduceEqDiff, reduceIte, Option.isNone_none, Option.isNone_some, Bool.false_eq_true, List.length_cons, List.length_nil, Nat.reduceAdd, Nat.reduceMul]
    refine hK11 _ _ _ ?_
    refine rwp_seq fun K14 hK14 => ?_
    refine rwp_region fun K15 hK15 => ?_
    refine st0 960 rfl (ok (mv (.d (eI (([(511 : Int), (512 : Int), (513 : Int), (700 : Int), (0 : Int)] : List (Int)).getD (0 + ((ibits .and .i64 a2 (7 : Int)).tmod (5 : Int)).toNat) (0 : Int)))))) ?_
    refine st0 1024 rfl (ok (mv (.d (eI a2)))) ?_
    refine st0 1088 rfl (ok (shrII _ (by decide))) ?_
    refine st0 1152 rfl (ok (andI _ (15 : Int))) ?_
    obtain ⟨v16, h17, h⟩ := lett_inv h
    refine st0e 1216 rfl (ok (subI _ (2 : Int))) (congrArg (fun z => PV.d (eI z)) h17) ?_
    obtain ⟨y18, h19, h⟩ := bind_inv h
    refine st0 1280 rfl (call_ok (v := .tup [.d (eTApiFlash y18.1), .d (eI y18.2)]) (u := []) (ar_d (eI (([(511 : Int), (512 : Int), (513 : Int), (700 : Int), (0 : Int)] : List (Int)).getD (0 + ((ibits .and .i64 a2 (7 : Int)).tmod (5 : Int)).toNat) (0 : Int))) (ar_d (eI v16) ar_nil)) rfl (flashNewOK (([(511 : Int), (512 : Int), (513 : Int), (700 : Int), (0 : Int)] : List (Int)).getD (0 + ((ibits .and .i64 a2 (7 : Int)).tmod (5 : Int)).toNat) (0 : Int)) v16 y18 h19) rfl) ?_
    refine st0 1344 rfl (ok (mv (.tup [.d (eTApiFlash y18.1), .d (eI y18.2)]))) ?_
    refine st0 1408 rfl (ok (extr (v := .d (eTApiFlash y18.1)) rfl rfl)) ?_
    refine st0 1472 rfl (ok (extr (v := .d (eI y18.2)) rfl rfl)) ?_
    refine st1 1536 rfl (mem' := [(1472, .var .mine [.d (eI (0 : Int)), .nil 1]), (448, .row true 1 (([(511 : Int), (512 : Int), (513 : Int), (700 : Int), (0 : Int)] : List (Int)).map eI)), (64, .var .mine [.d (eI a3.PageSize), .d ((eL 1 eU8) a3.Bytes)])]) (ok (alc (zs := [.d (eI (0 : Int)), .nil 1]))) rfl ?_
    refine stn 1600 rfl (mem' := [(1472, .var .mine [.d (eI y18.1.PageSize), .d ((eL 1 eU8) y18.1.Bytes)]), (448, .row true 1 (([(511 : Int), (512 : Int), (513 : Int), (700 : Int), (0 : Int)] : List (Int)).map eI)), (64, .var .mine [.d (eI a3.PageSize), .d ((eL 1 eU8) a3.Bytes)])]) (ok (sto_v (ps' := [.d (eI y18.1.PageSize), .d ((eL 1 eU8) y18.1.Bytes)]) rfl rfl rfl rfl)) rfl ?_
    refine st0 1664 rfl (ok (mv (.d (eI y18.2)))) ?_
    refine hK15 _ _ ?_
    simp only [thenK, blockK, keepE, updM, List.filter_cons, List.filter_nil, List.nil_append, List.cons_append, List.map_cons, List.map_nil, envE, Mem.get, Nat.reduceEqDiff, reduceIte, Option.isNone_none, Option.isNone_some, Bool.false_eq_true, List.length_cons, List.length_nil, Nat.reduceAdd, Nat.reduceMul]
    refine hK14 _ _ _ ?_
    refine rwp_seq fun K20 hK20 => ?_
    refine rwp_region fun K21 hK21 => ?_
    refine st0 1728 rfl (ok (mv (.d (eI (([(511 : Int), (512 : Int), (513 : Int), (700 : Int), (0 : Int)] : List (Int)).getD (0 + ((ibits .and .i64 a2 (7 : Int)).tmod (5 : Int)).toNat) (0 : Int)))))) ?_
    refine st0 1792 rfl (ok (mv (.d (eI a2)))) ?_
    refine st0 1856 rfl (ok (shrII _ (by decide))) ?_
    refine st0 1920 rfl (ok (andI _ (15 : Int))) ?_
    obtain ⟨v22, h23, h⟩ := lett_inv h
    refine st0e 1984 rfl (ok (subI _ (2 : Int))) (congrArg (fun z => PV.d (eI z)) h23) ?_
    obtain ⟨y24, h25, h⟩ := bind_inv h
    refine st0 2048 rfl (call_ok (v := .tup [.d (eTApiFlash y24.1), .d (eI y24.2)]) (u := []) (ar_d (eI (([(511 : Int), (512 : Int), (513 : Int), (700 : Int), (0 : Int)] : List (Int)).getD (0 + ((ibits .and .i64 a2 (7 : Int)).tmod (5 : Int)).toNat) (0 : Int))) (ar_d (eI v22) ar_nil)) rfl (passkeyref7NewFlashOK (([(511 : Int), (512 : Int), (513 : Int), (700 : Int), (0 : Int)] : List (Int)).getD (0 + ((ibits .and .i64 a2 (7 : Int)).tmod (5 : Int)).toNat) (0 : Int)) v22 y24 h25) rfl) ?_
    refine st0 2112 rfl (ok (mv (.tup [.d (eTApiFlash y24.1), .d (eI y24.2)]))) ?_
    refine st0 2176 rfl (ok (extr (v := .d (eTApiFlash y24.1)) rfl rfl)) ?_
    refine st0 2240 rfl (ok (extr (v := .d (eI y24.2)) rfl rfl)) ?_
    refine st1 2304 rfl (mem' := [(2240, .var .mine [.d (eI (0 : Int)), .nil 1]), (1472, .var .mine [.d (eI y18.1.PageSize), .d ((eL 1 eU8) y18.1.Bytes)]), (448, .row true 1 (([(511 : Int), (512 : Int), (513 : Int), (700 : Int), (0 : Int)] : List (Int)).map eI)), (64, .var .mine [.d (eI a3.PageSize), .d ((eL 1 eU8) a3.Bytes)])]) (ok (alc (zs := [.d (eI (0 : Int)), .nil 1]))) rfl ?_
    refine stn 2368 rfl (mem' := [(2240, .var .mine [.d (eI y24.1.PageSize), .d ((eL 1 eU8) y24.1.Bytes)]), (1472, .var .mine [.d (eI y18.1.PageSize), .d ((eL 1 eU8) y18.1.Bytes)]), (448, .row true 1 (([(511 : Int), (512 : Int), (513 : Int), (700 : Int), (0 : Int)] : List (Int)).map eI)), (64, .var .mine [.d (eI a3.PageSize), .d ((eL 1 eU8) a3.Bytes)])]) (ok (sto_v (ps' := [.d (eI y24.1.PageSize), .d ((eL 1 eU8) y24.1.Bytes)]) rfl rfl rfl rfl)) rfl ?_
    refine st0 2432 rfl (ok (mv (.d (eI y24.2)))) ?_
    refine hK21 _ _ ?_
    simp only [thenK, blockK, keepE, updM, List.filter_cons, List.filter_nil, List.nil_append, List.cons_append, List.map_cons, List.map_nil, envE, Mem.get, Nat.reduceEqDiff, reduceIte, Option.isNone_none, Option.isNone_some, Bool.false_eq_true, List.length_cons, List.length_nil, Nat.reduceAdd, Nat.reduceMul]
    refine hK20 _ _ _ ?_
    refine rwp_seq fun K26 hK26 => ?_
    refine rwp_region fun K27 hK27 => ?_
    refine st0 2496 rfl (ok (mv (.d (eI (0 : Int))))) ?_
    refine hK27 _ _ ?_
    simp only [thenK, blockK, keepE, updM, List.filter_cons, List.filter_nil, List.nil_append, List.cons_append, List.map_cons, List.map_nil, envE, Mem.get, Nat.reduceEqDiff, reduceIte, Option.isNone_none, Option.isNone_some, Bool.false_eq_true, List.length_cons, List.length_nil, Nat.reduceAdd, Nat.reduceMul]
    refine hK26 _ _ _ ?_
    refine rwp_join ([], []) 3584 (fun env mem => ∃ (v28 : Int), passkeylaw7FlashNewJ1 a0 a1 a3 y18 y24 v28 = some res ∧ env = [(0, .d (eI a0)), (1, .d (eI a1)), (7, .ptr 64 0), (10, .ptr 1472 0), (11, .d (eI y18.2)), (12, .ptr 2240 0), (13, .d (eI y24.2)), (14, .d (eI v28))] ∧ mem = [(64, .var .mine [.d (eI a3.PageSize), .d ((eL 1 eU8) a3.Bytes)]), (1472, .var .mine [.d (eI y18.1.PageSize), .d ((eL 1 eU8) y18.1.Bytes)]), (2240, .var .mine [.d (eI y24.1.PageSize), .d ((eL 1 eU8) y24.1.Bytes)])]) (fun _ _ hI => ?_) (fun K29 hK29 => ?_)
    · obtain ⟨v28, h, rfl, rfl⟩ := hI
      unfold passkeylaw7FlashNewJ1 at h
      refine rwp_seq fun K30 hK30 => ?_
      refine rwp_region fun K31 hK31 => ?_
      refine st0 3648 rfl (ok (mv (.d (eI a0)))) ?_
      refine st0 3712 rfl (ok (mv (.d (eI a1)))) ?_
      obtain ⟨y32, h33, h⟩ := bind_inv h
      refine st0 3776 rfl (call_ok (v := .tup [.d (eTApiFlash y32.1), .d (eI y32.2)]) (u := []) (ar_d (eI a0) (ar_d (eI a1) ar_nil)) rfl (flashNewOK a0 a1 y32 h33) rfl) ?_
      refine st0 3840 rfl (ok (mv (.tup [.d (eTApiFlash y32.1), .d (eI y32.2)]))) ?_
      refine st0 3904 rfl (ok (extr (v := .d (eTApiFlash y32.1)) rfl rfl)) ?_
      refine st0 3968 rfl (ok (extr (v := .d (eI y32.2)) rfl rfl)) ?_
      refine st1 4032 rfl (mem' := [(3968, .var .mine [.d (eI (0 : Int)), .nil 1]), (64, .var .mine [.d (eI a3.PageSize), .d ((eL 1 eU8) a3.Bytes)]), (1472, .var .mine [.d (eI y18.1.PageSize), .d ((eL 1 eU8) y18.1.Bytes)]), (2240, .var .mine [.d (eI y24.1.PageSize), .d ((eL 1 eU8) y24.1.Bytes)])]) (ok (alc (zs := [.d (eI (0 : Int)), .nil 1]))) rfl ?_
      refine stn 4096 rfl (mem' := [(3968, .var .mine [.d (eI y32.1.PageSize), .d ((eL 1 eU8) y32.1.Bytes)]), (64, .var .mine [.d (eI a3.PageSize), .d ((eL 1 eU8) a3.Bytes)]), (1472, .var .mine [.d (eI y18.1.PageSize), .d ((eL 1 eU8) y18.1.Bytes)]), (2240, .var .mine [.d (eI y24.1.PageSize), .d ((eL 1 eU8) y24.1.Bytes)])]) (ok (sto_v (ps' := [.d (eI y32.1.PageSize), .d ((eL 1 eU8) y32.1.Bytes)]) rfl rfl rfl rfl)) rfl ?_
      refine st0 4160 rfl (ok (mv (.d (eI y32.2)))) ?_
      refine hK31 _ _ ?_
      simp only [thenK, blockK, keepE, updM, List.filter_cons, List.filter_nil, List.nil_append, List.cons_append, List.map_cons, List.map_nil, envE, Mem.get, Nat.reduceEqDiff, reduceIte, Option.isNone_none, Option.isNone_some, Bool.false_eq_true, List.length_cons, List.length_nil, Nat.reduceAdd, Nat.reduceMul]
      refine hK30 _ _ _ ?_
      refine rwp_seq fun K34 hK34 => ?_
      refine rwp_draw fun K35 hK35 => ?_
      refine dr0 4224 rfl (ok (mv (.d (eI y18.2)))) (by kernel_rfl) ?_
      refine dr0 4288 rfl (ok (mv (.d (eI y24.2)))) (by kernel_rfl) ?_
      refine dr0 4352 rfl (ok (eqlI _ _)) (by kernel_rfl) ?_
      refine dr0 4416 rfl (ok (mv (.d (eB (y18.2 == y24.2))))) (by kernel_rfl) ?_
      rcases Bool.eq_false_or_eq_true ((y18.2 == y24.2)) with h36 | h36
      · replace h := ite_t h h36
        refine drG (isT h36) ?_
        refine dr0 4480 rfl (ok (ld_v (v := .d (.agg [eI y18.1.PageSize, (eL 1 eU8) y18.1.Bytes])) rfl rfl rfl)) (by kernel_rfl) ?_
        refine drG (isT h36) ?_
        refine dr0 4544 rfl (ok (ld_v (v := .d (.agg [eI y24.1.PageSize, (eL 1 eU8) y24.1.Bytes])) rfl rfl rfl)) (by kernel_rfl) ?_
        refine drG (isT h36) ?_
        obtain ⟨y37, h38, h⟩ := bind_inv h
        refine dr0 4608 rfl (call_ok (v := .d (eB y37)) (u := []) (ar_d (eTApiFlash (TApiFlash.mk y18.1.PageSize y18.1.Bytes)) (ar_d (eTApiFlash (TApiFlash.mk y24.1.PageSize y24.1.Bytes)) ar_nil)) rfl (passkeyref7SameFlashOK (TApiFlash.mk y18.1.PageSize y18.1.Bytes) (TApiFlash.mk y24.1.PageSize y24.1.Bytes) y37 h38) rfl) (by kernel_rfl) ?_
        refine dr0 4672 rfl (ok (pick_t h36 (.d (eB y37)) _)) (by kernel_rfl) ?_
        refine dr0 4736 rfl (ok (mv (.d (eB y37)))) (by kernel_rfl) ?_
        rcases Bool.eq_false_or_eq_true (y37) with h39 | h39
        · replace h := ite_t h h39
          refine drG (isT h39) ?_
          refine dr0 4800 rfl (ok (mv (.d (eI y32.2)))) (by kernel_rfl) ?_
          refine drG (isT h39) ?_
          refine dr0 4864 rfl (ok (mv (.d (eI v28)))) (by kernel_rfl) ?_
          refine drG (isT h39) ?_
          refine dr0 4928 rfl (ok (eqlI _ _)) (by kernel_rfl) ?_
          refine dr0 4992 rfl (ok (pick_t h39 (.d (eB (y32.2 == v28))) _)) (by kernel_rfl) ?_
          refine dr0 5056 rfl (ok (mv (.d (eB (y32.2 == v28))))) (by kernel_rfl) ?_
          rcases Bool.eq_false_or_eq_true ((y32.2 == v28)) with h40 | h40
          · replace h := ite_t h h40
            refine drG (isT h40) ?_
            refine dr0 5120 rfl (ok (mv (.d (eI v28)))) (by kernel_rfl) ?_
            refine drG (isT h40) ?_
            refine dr0 5184 rfl (ok (eqlI _ (0 : Int))) (by kernel_rfl) ?_
            refine drG (isT h40) ?_
            refine dr0 5248 rfl (ok (mv (.d (eB (v28 == (0 : Int)))))) (by kernel_rfl) ?_
            rcases Bool.eq_false_or_eq_true ((v28 == (0 : Int))) with h41 | h41
            · replace h := ite_t h h41
              refine drGN 5312 rfl rfl h41 ?_
              refine drGN 5376 rfl rfl h41 ?_
              refine drGN 5440 rfl rfl h41 ?_
              refine drGN 5504 rfl rfl h41 ?_
              refine drG (isT h40) ?_
              refine dr0 5568 rfl (ok (pick_t h41 (.d (eB true)) _)) (by kernel_rfl) ?_
              refine dr0 5632 rfl (ok (pick_t h40 (.d (eB true)) _)) (by kernel_rfl) ?_
              refine dr0 5696 rfl (ok (mv (.d (eB true)))) (by kernel_rfl) ?_
              refine drG rfl ?_
              refine dr0 5760 rfl (ok (ld_v (v := .d (.agg [eI a3.PageSize, (eL 1 eU8) a3.Bytes])) rfl rfl rfl)) (by kernel_rfl) ?_
              refine drG rfl ?_
              obtain ⟨y42, h43, h⟩ := bind_inv h
              refine dr0 5824 rfl (call_ok (v := .d (eI y42)) (u := []) (ar_d (eTApiFlash (TApiFlash.mk a3.PageSize a3.Bytes)) ar_nil) rfl (flashValidateOK (TApiFlash.mk a3.PageSize a3.Bytes) y42 h43) rfl) (by kernel_rfl) ?_
              refine drG rfl ?_
              refine dr0 5888 rfl (ok (ld_v (v := .d (.agg [eI a3.PageSize, (eL 1 eU8) a3.Bytes])) rfl rfl rfl)) (by kernel_rfl) ?_
              refine drG rfl ?_
              obtain ⟨y44, h45, h⟩ := bind_inv h
              refine dr0 5952 rfl (call_ok (v := .d (eI y44)) (u := []) (ar_d (eTApiFlash (TApiFlash.mk a3.PageSize a3.Bytes)) ar_nil) rfl (passkeyref7ValidateFlashOK (TApiFlash.mk a3.PageSize a3.Bytes) y44 h45) rfl) (by kernel_rfl) ?_
              refine drG rfl ?_
              refine dr0 6016 rfl (ok (eqlI _ _)) (by kernel_rfl) ?_
              refine dr0 6080 rfl (ok (pick_t rfl (.d (eB (y42 == y44))) _)) (by kernel_rfl) ?_
              refine dr0 6144 rfl (ok (mv (.d (eB (y42 == y44))))) (by kernel_rfl) ?_
              rcases Bool.eq_false_or_eq_true ((y42 == y44)) with h46 | h46
              · replace h := ite_t h h46
                refine drG (isT h46) ?_
                obtain ⟨y47, h48, h⟩ := bind_inv h
                refine dr0 6208 rfl (call_ok (v := .d (eB y47)) (u := []) ar_nil rfl (passkeylaw7awakeOK  y47 h48) rfl) (by kernel_rfl) ?_
                refine dr0 6272 rfl (ok (pick_t h46 (.d (eB y47)) _)) (by kernel_rfl) ?_
                refine dr0 6336 rfl (ok (mv (.d (eB y47)))) (by kernel_rfl) ?_
                refine hK35 _ _ ?_
                simp only [thenK, blockK, keepE, updM, List.filter_cons, List.filter_nil, List.nil_append, List.cons_append, List.map_cons, List.map_nil, envE, Mem.get, Nat.reduceEqDiff, reduceIte, Option.isNone_none, Option.isNone_some, Bool.false_eq_true, List.length_cons, List.length_nil, Nat.reduceAdd, Nat.reduceMul]
                refine hK34 _ _ _ ?_
                refine rwp_ret ?_
                obtain rfl := Option.some.inj h
                try simp only [thenK, blockK, reduceIte]
                exact Or.inl (end_ok trivial (rs_t (v := .d (eB y47)) rfl rs_nil) (en_d (to_d _) en_nil) ou_nil (by first | exact eok rfl rfl rfl rfl trivial | (refine eok ?_ ?_ ?_ ?_ ?_ <;> first | rfl | exact trivial | simp [retM, Mem.get, PV.renL, PV.ren, Blk.ren, comps, rhoR, rhoM, appN, PV.refsL, PV.refs, keys, nodupB, Blk.refs, allIn, Blk.bor])))
              · replace h := ite_f h h46
                refine drGN 6208 rfl rfl h46 ?_
                refine dr0 6272 rfl (ok (pick_f h46 _ (.d (eB false)))) (by kernel_rfl) ?_
                refine dr0 6336 rfl (ok (mv (.d (eB false)))) (by kernel_rfl) ?_
                refine hK35 _ _ ?_
                simp only [thenK, blockK, keepE, updM, List.filter_cons, List.filter_nil, List.nil_append, List.cons_append, List.map_cons, List.map_nil, envE, Mem.get, Nat.reduceEqDiff, reduceIte, Option.isNone_none, Option.isNone_some, Bool.false_eq_true, List.length_cons, List.length_nil, Nat.reduceAdd, Nat.reduceMul]
                refine hK34 _ _ _ ?_
                refine rwp_ret ?_
                obtain rfl := Option.some.inj h
                try simp only [thenK, blockK, reduceIte]
                exact Or.inl (end_ok trivial (rs_t (v := .d (eB false)) rfl rs_nil) (en_d (to_d _) en_nil) ou_nil (by first | exact eok rfl rfl rfl rfl trivial | (refine eok ?_ ?_ ?_ ?_ ?_ <;> first | rfl | exact trivial | simp [retM, Mem.get, PV.renL, PV.ren, Blk.ren, comps, rhoR, rhoM, appN, PV.refsL, PV.refs, keys, nodupB, Blk.refs, allIn, Blk.bor])))
            · replace h := ite_f h h41
              refine drG (isF h41) ?_
              refine dr0 5312 rfl (ok (fa_k 1 rfl)) (by kernel_rfl) ?_
              refine drG (isF h41) ?_
              refine dr0 5376 rfl (ok (ld_v (v := .d ((eL 1 eU8) y32.1.Bytes)) rfl rfl rfl)) (by kernel_rfl) ?_
              refine drG (isF h41) ?_
              refine dr0 5440 rfl (ok (lenL _ _)) (by kernel_rfl) ?_
              refine drG (isF h41) ?_
              refine dr0 5504 rfl (ok (eqlI _ (0 : Int))) (by kernel_rfl) ?_
              refine drG (isT h40) ?_
              refine dr0 5568 rfl (ok (pick_f h41 _ (.d (eB ((y32.1.Bytes.length : Int) == (0 : Int)))))) (by kernel_rfl) ?_
              refine dr0 5632 rfl (ok (pick_t h40 (.d (eB ((y32.1.Bytes.length : Int) == (0 : Int)))) _)) (by kernel_rfl) ?_
              refine dr0 5696 rfl (ok (mv (.d (eB ((y32.1.Bytes.length : Int) == (0 : Int)))))) (by kernel_rfl) ?_
              rcases Bool.eq_false_or_eq_true (((y32.1.Bytes.length : Int) == (0 : Int))) with h49 | h49
              · replace h := ite_t h h49
                refine drG (isT h49) ?_
                refine dr0 5760 rfl (ok (ld_v (v := .d (.agg [eI a3.PageSize, (eL 1 eU8) a3.Bytes])) rfl rfl rfl)) (by kernel_rfl) ?_
                refine drG (isT h49) ?_
                obtain ⟨y50, h51, h⟩ := bind_inv h
                refine dr0 5824 rfl (call_ok (v := .d (eI y50)) (u := []) (ar_d (eTApiFlash (TApiFlash.mk a3.PageSize a3.Bytes)) ar_nil) rfl (flashValidateOK (TApiFlash.mk a3.PageSize a3.Bytes) y50 h51) rfl) (by kernel_rfl) ?_
                refine drG (isT h49) ?_
                refine dr0 5888 rfl (ok (ld_v (v := .d (.agg [eI a3.PageSize, (eL 1 eU8) a3.Bytes])) rfl rfl rfl)) (by kernel_rfl) ?_
                refine drG (isT h49) ?_
                obtain ⟨y52, h53, h⟩ := bind_inv h
                refine dr0 5952 rfl (call_ok (v := .d (eI y52)) (u := []) (ar_d (eTApiFlash (TApiFlash.mk a3.PageSize a3.Bytes)) ar_nil) rfl (passkeyref7ValidateFlashOK (TApiFlash.mk a3.PageSize a3.Bytes) y52 h53) rfl) (by kernel_rfl) ?_
                refine drG (isT h49) ?_
                refine dr0 6016 rfl (ok (eqlI _ _)) (by kernel_rfl) ?_
                refine dr0 6080 rfl (ok (pick_t h49 (.d (eB (y50 == y52))) _)) (by kernel_rfl) ?_
                refine dr0 6144 rfl (ok (mv (.d (eB (y50 == y52))))) (by kernel_rfl) ?_
                rcases Bool.eq_false_or_eq_true ((y50 == y52)) with h54 | h54
                · replace h := ite_t h h54
                  refine drG (isT h54) ?_
                  obtain ⟨y55, h56, h⟩ := bind_inv h
                  refine dr0 6208 rfl (call_ok (v := .d (eB y55)) (u := []) ar_nil rfl (passkeylaw7awakeOK  y55 h56) rfl) (by kernel_rfl) ?_
                  refine dr0 6272 rfl (ok (pick_t h54 (.d (eB y55)) _)) (by kernel_rfl) ?_
                  refine dr0 6336 rfl (ok (mv (.d (eB y55)))) (by kernel_rfl) ?_
                  refine hK35 _ _ ?_
                  simp only [thenK, blockK, keepE, updM, List.filter_cons, List.filter_nil, List.nil_append, List.cons_append, List.map_cons, List.map_nil, envE, Mem.get, Nat.reduceEqDiff, reduceIte, Option.isNone_none, Option.isNone_some, Bool.false_eq_true, List.length_cons, List.length_nil, Nat.reduceAdd, Nat.reduceMul]
                  refine hK34 _ _ _ ?_
                  refine rwp_ret ?_
                  obtain rfl := Option.some.inj h
                  try simp only [thenK, blockK, reduceIte]
                  exact Or.inl (end_ok trivial (rs_t (v := .d (eB y55)) rfl rs_nil) (en_d (to_d _) en_nil) ou_nil (by first | exact eok rfl rfl rfl rfl trivial | (refine eok ?_ ?_ ?_ ?_ ?_ <;> first | rfl | exact trivial | simp [retM, Mem.get, PV.renL, PV.ren, Blk.ren, comps, rhoR, rhoM, appN, PV.refsL, PV.refs, keys, nodupB, Blk.refs, allIn, Blk.bor])))
                · replace h := ite_f h h54
                  refine drGN 6208 rfl rfl h54 ?_
                  refine dr0 6272 rfl (ok (pick_f h54 _ (.d (eB false)))) (by kernel_rfl) ?_
                  refine dr0 6336 rfl (ok (mv (.d (eB false)))) (by kernel_rfl) ?_
                  refine hK35 _ _ ?_
                  simp only [thenK, blockK, keepE, updM, List.filter_cons, List.filter_nil, List.nil_append, List.cons_append, List.map_cons, List.map_nil, envE, Mem.get, Nat.reduceEqDiff, reduceIte, Option.isNone_none, Option.isNone_some, Bool.false_eq_true, List.length_cons, List.length_nil, Nat.reduceAdd, Nat.reduceMul]
                  refine hK34 _ _ _ ?_
                  refine rwp_ret ?_
                  obtain rfl := Option.some.inj h
                  try simp only [thenK, blockK, reduceIte]
                  exact Or.inl (end_ok trivial (rs_t (v := .d (eB false)) rfl rs_nil) (en_d (to_d _) en_nil) ou_nil (by first | exact eok rfl rfl rfl rfl trivial | (refine eok ?_ ?_ ?_ ?_ ?_ <;> first | rfl | exact trivial | simp [retM, Mem.get, PV.renL, PV.ren, Blk.ren, comps, rhoR, rhoM, appN, PV.refsL, PV.refs, keys, nodupB, Blk.refs, allIn, Blk.bor])))
              · replace h := ite_f h h49
                refine drGN 5760 rfl rfl h49 ?_
                refine drGN 5824 rfl rfl h49 ?_
                refine drGN 5888 rfl rfl h49 ?_
                refine drGN 5952 rfl rfl h49 ?_
                refine drGN 6016 rfl rfl h49 ?_
                refine dr0 6080 rfl (ok (pick_f h49 _ (.d (eB false)))) (by kernel_rfl) ?_
                refine dr0 6144 rfl (ok (mv (.d (eB false)))) (by kernel_rfl) ?_
                refine drGN 6208 rfl rfl rfl ?_
                refine dr0 6272 rfl (ok (pick_f rfl _ (.d (eB false)))) (by kernel_rfl) ?_
                refine dr0 6336 rfl (ok (mv (.d (eB false)))) (by kernel_rfl) ?_
                refine hK35 _ _ ?_
                simp only [thenK, blockK, keepE, updM, List.filter_cons, List.filter_nil, List.nil_append, List.cons_append, List.map_cons, List.map_nil, envE, Mem.get, Nat.reduceEqDiff, reduceIte, Option.isNone_none, Option.isNone_some, Bool.false_eq_true, List.length_cons, List.length_nil, Nat.reduceAdd, Nat.reduceMul]
                refine hK34 _ _ _ ?_
                refine rwp_ret ?_
                obtain rfl := Option.some.inj h
                try simp only [thenK, blockK, reduceIte]
                exact Or.inl (end_ok trivial (rs_t (v := .d (eB false)) rfl rs_nil) (en_d (to_d _) en_nil) ou_nil (by first | exact eok rfl rfl rfl rfl trivial | (refine eok ?_ ?_ ?_ ?_ ?_ <;> first | rfl | exact trivial | simp [retM, Mem.get, PV.renL, PV.ren, Blk.ren, comps, rhoR, rhoM, appN, PV.refsL, PV.refs, keys, nodupB, Blk.refs, allIn, Blk.bor])))
          · replace h := ite_f h h40
            refine drGN 5120 rfl rfl h40 ?_
            refine drGN 5184 rfl rfl h40 ?_
            refine drGN 5248 rfl rfl h40 ?_
            refine drGS 5312 rfl rfl ?_
            refine drGS 5376 rfl rfl ?_
            refine drGS 5440 rfl rfl ?_
            refine drGS 5504 rfl rfl ?_
            refine drGN 5568 rfl rfl h40 ?_
            refine dr0 5632 rfl (ok (pick_f h40 _ (.d (eB false)))) (by kernel_rfl) ?_
            refine dr0 5696 rfl (ok (mv (.d (eB false)))) (by kernel_rfl) ?_
            refine drGN 5760 rfl rfl rfl ?_
            refine drGN 5824 rfl rfl rfl ?_
            refine drGN 5888 rfl rfl rfl ?_
            refine drGN 5952 rfl rfl rfl ?_
            refine drGN 6016 rfl rfl rfl ?_
            refine dr0 6080 rfl (ok (pick_f rfl _ (.d (eB false)))) (by kernel_rfl) ?_
            refine dr0 6144 rfl (ok (mv (.d (eB false)))) (by kernel_rfl) ?_
            refine drGN 6208 rfl rfl rfl ?_
            refine dr0 6272 rfl (ok (pick_f rfl _ (.d (eB false)))) (by kernel_rfl) ?_
            refine dr0 6336 rfl (ok (mv (.d (eB false)))) (by kernel_rfl) ?_
            refine hK35 _ _ ?_
            simp only [thenK, blockK, keepE, updM, List.filter_cons, List.filter_nil, List.nil_append, List.cons_append, List.map_cons, List.map_nil, envE, Mem.get, Nat.reduceEqDiff, reduceIte, Option.isNone_none, Option.isNone_some, Bool.false_eq_true, List.length_cons, List.length_nil, Nat.reduceAdd, Nat.reduceMul]
            refine hK34 _ _ _ ?_
            refine rwp_ret ?_
            obtain rfl := Option.some.inj h
            try simp only [thenK, blockK, reduceIte]
            exact Or.inl (end_ok trivial (rs_t (v := .d (eB false)) rfl rs_nil) (en_d (to_d _) en_nil) ou_nil (by first | exact eok rfl rfl rfl rfl trivial | (refine eok ?_ ?_ ?_ ?_ ?_ <;> first | rfl | exact trivial | simp [retM, Mem.get, PV.renL, PV.ren, Blk.ren, comps, rhoR, rhoM, appN, PV.refsL, PV.refs, keys, nodupB, Blk.refs, allIn, Blk.bor])))
        · replace h := ite_f h h39
          refine drGN 4800 rfl rfl h39 ?_
          refine drGN 4864 rfl rfl h39 ?_
          refine drGN 4928 rfl rfl h39 ?_
          refine dr0 4992 rfl (ok (pick_f h39 _ (.d (eB false)))) (by kernel_rfl) ?_
          refine dr0 5056 rfl (ok (mv (.d (eB false)))) (by kernel_rfl) ?_
          refine drGN 5120 rfl rfl rfl ?_
          refine drGN 5184 rfl rfl rfl ?_
          refine drGN 5248 rfl rfl rfl ?_
          refine drGS 5312 rfl rfl ?_
          refine drGS 5376 rfl rfl ?_
          refine drGS 5440 rfl rfl ?_
          refine drGS 5504 rfl rfl ?_
          refine drGN 5568 rfl rfl rfl ?_
          refine dr0 5632 rfl (ok (pick_f rfl _ (.d (eB false)))) (by kernel_rfl) ?_
          refine dr0 5696 rfl (ok (mv (.d (eB false)))) (by kernel_rfl) ?_
          refine drGN 5760 rfl rfl rfl ?_
          refine drGN 5824 rfl rfl rfl ?_
          refine drGN 5888 rfl rfl rfl ?_
          refine drGN 5952 rfl rfl rfl ?_
          refine drGN 6016 rfl rfl rfl ?_
          refine dr0 6080 rfl (ok (pick_f rfl _ (.d (eB false)))) (by kernel_rfl) ?_
          refine dr0 6144 rfl (ok (mv (.d (eB false)))) (by kernel_rfl) ?_
          refine drGN 6208 rfl rfl rfl ?_
          refine dr0 6272 rfl (ok (pick_f rfl _ (.d (eB false)))) (by kernel_rfl) ?_
          refine dr0 6336 rfl (ok (mv (.d (eB false)))) (by kernel_rfl) ?_
          refine hK35 _ _ ?_
          simp only [thenK, blockK, keepE, updM, List.filter_cons, List.filter_nil, List.nil_append, List.cons_append, List.map_cons, List.map_nil, envE, Mem.get, Nat.reduceEqDiff, reduceIte, Option.isNone_none, Option.isNone_some, Bool.false_eq_true, List.length_cons, List.length_nil, Nat.reduceAdd, Nat.reduceMul]
          refine hK34 _ _ _ ?_
          refine rwp_ret ?_
          obtain rfl := Option.some.inj h
          try simp only [thenK, blockK, reduceIte]
          exact Or.inl (end_ok trivial (rs_t (v := .d (eB false)) rfl rs_nil) (en_d (to_d _) en_nil) ou_nil (by first | exact eok rfl rfl rfl rfl trivial | (refine eok ?_ ?_ ?_ ?_ ?_ <;> first | rfl | exact trivial | simp [retM, Mem.get, PV.renL, PV.ren, Blk.ren, comps, rhoR, rhoM, appN, PV.refsL, PV.refs, keys, nodupB, Blk.refs, allIn, Blk.bor])))
      · replace h := ite_f h h36
        refine drGN 4480 rfl rfl h36 ?_
        refine drGN 4544 rfl rfl h36 ?_
        refine drGN 4608 rfl rfl h36 ?_
        refine dr0 4672 rfl (ok (pick_f h36 _ (.d (eB false)))) (by kernel_rfl) ?_
        refine dr0 4736 rfl (ok (mv (.d (eB false)))) (by kernel_rfl) ?_
        refine drGN 4800 rfl rfl rfl ?_
        refine drGN 4864 rfl rfl rfl ?_
        refine drGN 4928 rfl rfl rfl ?_
        refine dr0 4992 rfl (ok (pick_f rfl _ (.d (eB false)))) (by kernel_rfl) ?_
        refine dr0 5056 rfl (ok (mv (.d (eB false)))) (by kernel_rfl) ?_
        refine drGN 5120 rfl rfl rfl ?_
        refine drGN 5184 rfl rfl rfl ?_
        refine drGN 5248 rfl rfl rfl ?_
        refine drGS 5312 rfl rfl ?_
        refine drGS 5376 rfl rfl ?_
        refine drGS 5440 rfl rfl ?_
        refine drGS 5504 rfl rfl ?_
        refine drGN 5568 rfl rfl rfl ?_
        refine dr0 5632 rfl (ok (pick_f rfl _ (.d (eB false)))) (by kernel_rfl) ?_
        refine dr0 5696 rfl (ok (mv (.d (eB false)))) (by kernel_rfl) ?_
        refine drGN 5760 rfl rfl rfl ?_
        refine drGN 5824 rfl rfl rfl ?_
        refine drGN 5888 rfl rfl rfl ?_
        refine drGN 5952 rfl rfl rfl ?_
        refine drGN 6016 rfl rfl rfl ?_
        refine dr0 6080 rfl (ok (pick_f rfl _ (.d (eB false)))) (by kernel_rfl) ?_
        refine dr0 6144 rfl (ok (mv (.d (eB false)))) (by kernel_rfl) ?_
        refine drGN 6208 rfl rfl rfl ?_
        refine dr0 6272 rfl (ok (pick_f rfl _ (.d (eB false)))) (by kernel_rfl) ?_
        refine dr0 6336 rfl (ok (mv (.d (eB false)))) (by kernel_rfl) ?_
        refine hK35 _ _ ?_
        simp only [thenK, blockK, keepE, updM, List.filter_cons, List.filter_nil, List.nil_append, List.cons_append, List.map_cons, List.map_nil, envE, Mem.get, Nat.reduceEqDiff, reduceIte, Option.isNone_none, Option.isNone_some, Bool.false_eq_true, List.length_cons, List.length_nil, Nat.reduceAdd, Nat.reduceMul]
        refine hK34 _ _ _ ?_
        refine rwp_ret ?_
        obtain rfl := Option.some.inj h
        try simp only [thenK, blockK, reduceIte]
        exact Or.inl (end_ok trivial (rs_t (v := .d (eB false)) rfl rs_nil) (en_d (to_d _) en_nil) ou_nil (by first | exact eok rfl rfl rfl rfl trivial | (refine eok ?_ ?_ ?_ ?_ ?_ <;> first | rfl | exact trivial | simp [retM, Mem.get, PV.renL, PV.ren, Blk.ren, comps, rhoR, rhoM, appN, PV.refsL, PV.refs, keys, nodupB, Blk.refs, allIn, Blk.bor])))
    · refine rwp_join ([], []) 3456 (fun env mem => ∃ (v57 : Bool), passkeylaw7FlashNewJ2 a0 a1 a3 y18 y24 v57 = some res ∧ env = [(0, .d (eI a0)), (1, .d (eI a1)), (7, .ptr 64 0), (10, .ptr 1472 0), (11, .d (eI y18.2)), (12, .ptr 2240 0), (13, .d (eI y24.2)), (14, .d (eI (0 : Int))), (59, .d (eB v57))] ∧ mem = [(64, .var .mine [.d (eI a3.PageSize), .d ((eL 1 eU8) a3.Bytes)]), (1472, .var .mine [.d (eI y18.1.PageSize), .d ((eL 1 eU8) y18.1.Bytes)]), (2240, .var .mine [.d (eI y24.1.PageSize), .d ((eL 1 eU8) y24.1.Bytes)])]) (fun _ _ hI => ?_) (fun K58 hK58 => ?_)
      · obtain ⟨v57, h, rfl, rfl⟩ := hI
        unfold passkeylaw7FlashNewJ2 at h
        rcases Bool.eq_false_or_eq_true (v57) with h59 | h59
        · replace h := ite_t h h59
          refine rwp_t (isT h59) ?_
          refine rwp_region fun K60 hK60 => ?_
          refine st0 3520 rfl (ok (mv (.d (eI (9 : Int))))) ?_
          refine hK60 _ _ ?_
          simp only [thenK, blockK, keepE, updM, List.filter_cons, List.filter_nil, List.nil_append, List.cons_append, List.map_cons, List.map_nil, envE, Mem.get, Nat.reduceEqDiff, reduceIte, Option.isNone_none, Option.isNone_some, Bool.false_eq_true, List.length_cons, List.length_nil, Nat.reduceAdd, Nat.reduceMul]
          exact hK29 _ _ _ ⟨_, _, Settled.refl, _, _, ⟨_, h, rfl, rfl⟩, ⟨rfl, ⟨⟨rfl, rfl⟩, ⟨⟨rfl, rfl⟩, ⟨⟨rfl, rfl⟩, ⟨⟨rfl, rfl⟩, ⟨⟨rfl, rfl⟩, ⟨⟨rfl, rfl⟩, ⟨⟨rfl, rfl⟩, ⟨⟨rfl, rfl⟩, trivial⟩⟩⟩⟩⟩⟩⟩⟩, ⟨⟨rfl, rfl⟩, ⟨⟨rfl, rfl⟩, ⟨⟨rfl, rfl⟩, trivial⟩⟩⟩⟩, rfl⟩
        · replace h := ite_f h h59
          refine rwp_f (isF h59) ?_
          refine rwp_skip ?_
          exact hK29 _ _ _ ⟨_, _, Settled.refl, _, _, ⟨_, h, rfl, rfl⟩, ⟨rfl, ⟨⟨rfl, rfl⟩, ⟨⟨rfl, rfl⟩, ⟨⟨rfl, rfl⟩, ⟨⟨rfl, rfl⟩, ⟨⟨rfl, rfl⟩, ⟨⟨rfl, rfl⟩, ⟨⟨rfl, rfl⟩, ⟨⟨rfl, rfl⟩, trivial⟩⟩⟩⟩⟩⟩⟩⟩, ⟨⟨rfl, rfl⟩, ⟨⟨rfl, rfl⟩, ⟨⟨rfl, rfl⟩, trivial⟩⟩⟩⟩, rfl⟩
      · refine rwp_region fun K61 hK61 => ?_
        refine st0 2560 rfl (ok (mv (.d (eI a0)))) ?_
        refine st0 2624 rfl (ok (lssI _ (512 : Int))) ?_
        refine st0 2688 rfl (ok (mv (.d (eB (decide (a0 < (512 : Int))))))) ?_
        rcases Bool.eq_false_or_eq_true ((decide (a0 < (512 : Int)))) with h62 | h62
        · replace h := ite_t h h62
          refine stGN 2752 rfl rfl h62 ?_
          refine stGN 2816 rfl rfl h62 ?_
          refine st0 2880 rfl (ok (pick_t h62 (.d (eB true)) _)) ?_
          refine st0 2944 rfl (ok (mv (.d (eB true)))) ?_
          refine stGN 3008 rfl rfl rfl ?_
          refine stGN 3072 rfl rfl rfl ?_
          refine st0 3136 rfl (ok (pick_t rfl (.d (eB true)) _)) ?_
          refine st0 3200 rfl (ok (mv (.d (eB true)))) ?_
          refine stGN 3264 rfl rfl rfl ?_
          refine stGN 3328 rfl rfl rfl ?_
          refine st0 3392 rfl (ok (pick_t rfl (.d (eB true)) _)) ?_
          refine hK61 _ _ ?_
          simp only [thenK, blockK, keepE, updM, List.filter_cons, List.filter_nil, List.nil_append, List.cons_append, List.map_cons, List.map_nil, envE, Mem.get, Nat.reduceEqDiff, reduceIte, Option.isNone_none, Option.isNone_some, Bool.false_eq_true, List.length_cons, List.length_nil, Nat.reduceAdd, Nat.reduceMul]
          exact hK58 _ _ _ ⟨_, _, Settled.refl, _, _, ⟨_, h, rfl, rfl⟩, ⟨rfl, ⟨⟨rfl, rfl⟩, ⟨⟨rfl, rfl⟩, ⟨⟨rfl, rfl⟩, ⟨⟨rfl, rfl⟩, ⟨⟨rfl, rfl⟩, ⟨⟨rfl, rfl⟩, ⟨⟨rfl, rfl⟩, ⟨⟨rfl, rfl⟩, ⟨⟨rfl, rfl⟩, trivial⟩⟩⟩⟩⟩⟩⟩⟩⟩, ⟨⟨rfl, rfl⟩, ⟨⟨rfl, rfl⟩, ⟨⟨rfl, rfl⟩, trivial⟩⟩⟩⟩, rfl⟩
        · replace h := ite_f h h62
          refine stG (isF h62) ?_
          refine st0 2752 rfl (ok (mv (.d (eI a0)))) ?_
          refine stG (isF h62) ?_
          refine st0 2816 rfl (ok (gtrI _ (8192 : Int))) ?_
          refine st0 2880 rfl (ok (pick_f h62 _ (.d (eB (decide ((8192 : Int) < a0)))))) ?_
          refine st0 2944 rfl (ok (mv (.d (eB (decide ((8192 : Int) < a0)))))) ?_
          rcases Bool.eq_false_or_eq_true ((decide ((8192 : Int) < a0))) with h63 | h63
          · replace h := ite_t h h63
            refine stGN 3008 rfl rfl h63 ?_
            refine stGN 3072 rfl rfl h63 ?_
            refine st0 3136 rfl (ok (pick_t h63 (.d (eB true)) _)) ?_
            refine st0 3200 rfl (ok (mv (.d (eB true)))) ?_
            refine stGN 3264 rfl rfl rfl ?_
            refine stGN 3328 rfl rfl rfl ?_
            refine st0 3392 rfl (ok (pick_t rfl (.d (eB true)) _)) ?_
            refine hK61 _ _ ?_
            simp only [thenK, blockK, keepE, updM, List.filter_cons, List.filter_nil, List.nil_append, List.cons_append, List.map_cons, List.map_nil, envE, Mem.get, Nat.reduceEqDiff, reduceIte, Option.isNone_none, Option.isNone_some, Bool.false_eq_true, List.length_cons, List.length_nil, Nat.reduceAdd, Nat.reduceMul]
            exact hK58 _ _ _ ⟨_, _, Settled.refl, _, _, ⟨_, h, rfl, rfl⟩, ⟨rfl, ⟨⟨rfl, rfl⟩, ⟨⟨rfl, rfl⟩, ⟨⟨rfl, rfl⟩, ⟨⟨rfl, rfl⟩, ⟨⟨rfl, rfl⟩, ⟨⟨rfl, rfl⟩, ⟨⟨rfl, rfl⟩, ⟨⟨rfl, rfl⟩, ⟨⟨rfl, rfl⟩, trivial⟩⟩⟩⟩⟩⟩⟩⟩⟩, ⟨⟨rfl, rfl⟩, ⟨⟨rfl, rfl⟩, ⟨⟨rfl, rfl⟩, trivial⟩⟩⟩⟩, rfl⟩
          · replace h := ite_f h h63
            refine stG (isF h63) ?_
            refine st0 3008 rfl (ok (mv (.d (eI a1)))) ?_
            refine stG (isF h63) ?_
            refine st0 3072 rfl (ok (lssI _ (1 : Int))) ?_
            refine st0 3136 rfl (ok (pick_f h63 _ (.d (eB (decide (a1 < (1 : Int))))))) ?_
            refine st0 3200 rfl (ok (mv (.d (eB (decide (a1 < (1 : Int))))))) ?_
            rcases Bool.eq_false_or_eq_true ((decide (a1 < (1 : Int)))) with h64 | h64
            · replace h := ite_t h h64
              refine stGN 3264 rfl rfl h64 ?_
              refine stGN 3328 rfl rfl h64 ?_
              refine st0 3392 rfl (ok (pick_t h64 (.d (eB true)) _)) ?_
              refine hK61 _ _ ?_
              simp only [thenK, blockK, keepE, updM, List.filter_cons, List.filter_nil, List.nil_append, List.cons_append, List.map_cons, List.map_nil, envE, Mem.get, Nat.reduceEqDiff, reduceIte, Option.isNone_none, Option.isNone_some, Bool.false_eq_true, List.length_cons, List.length_nil, Nat.reduceAdd, Nat.reduceMul]
              exact hK58 _ _ _ ⟨_, _, Settled.refl, _, _, ⟨_, h, rfl, rfl⟩, ⟨rfl, ⟨⟨rfl, rfl⟩, ⟨⟨rfl, rfl⟩, ⟨⟨rfl, rfl⟩, ⟨⟨rfl, rfl⟩, ⟨⟨rfl, rfl⟩, ⟨⟨rfl, rfl⟩, ⟨⟨rfl, rfl⟩, ⟨⟨rfl, rfl⟩, ⟨⟨rfl, rfl⟩, trivial⟩⟩⟩⟩⟩⟩⟩⟩⟩, ⟨⟨rfl, rfl⟩, ⟨⟨rfl, rfl⟩, ⟨⟨rfl, rfl⟩, trivial⟩⟩⟩⟩, rfl⟩
            · replace h := ite_f h h64
              refine stG (isF h64) ?_
              refine st0 3264 rfl (ok (mv (.d (eI a1)))) ?_
              refine stG (isF h64) ?_
              refine st0 3328 rfl (ok (gtrI _ (8 : Int))) ?_
              refine st0 3392 rfl (ok (pick_f h64 _ (.d (eB (decide ((8 : Int) < a1)))))) ?_
              refine hK61 _ _ ?_
              simp only [thenK, blockK, keepE, updM, List.filter_cons, List.filter_nil, List.nil_append, List.cons_append, List.map_cons, List.map_nil, envE, Mem.get, Nat.reduceEqDiff, reduceIte, Option.isNone_none, Option.isNone_some, Bool.false_eq_true, List.length_cons, List.length_nil, Nat.reduceAdd, Nat.reduceMul]
              exact hK58 _ _ _ ⟨_, _, Settled.refl, _, _, ⟨_, h, rfl, rfl⟩, ⟨rfl, ⟨⟨rfl, rfl⟩, ⟨⟨rfl, rfl⟩, ⟨⟨rfl, rfl⟩, ⟨⟨rfl, rfl⟩, ⟨⟨rfl, rfl⟩, ⟨⟨rfl, rfl⟩, ⟨⟨rfl, rfl⟩, ⟨⟨rfl, rfl⟩, ⟨⟨rfl, rfl⟩, trivial⟩⟩⟩⟩⟩⟩⟩⟩⟩, ⟨⟨rfl, rfl⟩, ⟨⟨rfl, rfl⟩, ⟨⟨rfl, rfl⟩, trivial⟩⟩⟩⟩, rfl⟩

end Go.Proofs.Ty
