/- Each Go function comes to what its plain function says. PRINTED by a program of this session (ty.py). -/
import Derived.Test.YtpmnokohcamipaaS8
set_option linter.unusedVariables false
set_option linter.unusedSimpArgs false
set_option maxHeartbeats 4000000
set_option maxRecDepth 10000
namespace Go.Proofs.Ty
open Go Go.RW Go.Proofs
/-- passkey/passkeylaw7.FlashBits -/
def passkeylaw7FlashBitsH : Hints := ⟨[(0, [0, 1, 2, 3, 4]), (1, [0, 1, 2, 3, 4, 19]), (2, [10]), (3, [2, 3, 4, 11]), (4, [2, 3, 11, 12, 14]), (5, [2, 3, 11, 12, 48]), (6, [10]), (7, [2, 3, 11, 12, 15]), (8, [2, 3, 11, 12, 15, 53]), (10, [2, 3, 11, 12, 15, 16]), (11, [2, 3, 11, 12, 15, 97]), (12, [10]), (9, [2, 3, 11, 12, 15]), (13, [10])], []⟩
def passkeylaw7FlashBitsRc : RCode :=
  .seq (.region false [⟨some 10, .mv, [.k (.d (.bool false))], none, []⟩] [0, 1, 2, 3, 4]) (.seq (.seq (.region false [⟨some 17, .mv, [.t 3], none, []⟩, ⟨some 18, .len, [.t 17],
  none, []⟩, ⟨some 19, .bin .gtr, [.t 18, .k (.d (.int .i64 200))], none, []⟩] [0, 1, 2, 3, 4, 19]) (.cond (.t 19) (.seq (.region false [⟨some 20, .call 9 false, [], none, []⟩,
  ⟨some 10, .mv, [.t 20], none, []⟩] [10]) .ret) .skip)) (.seq (.region false [⟨some 21, .mv, [.t 0], none, []⟩, ⟨some 22, .mv, [.t 1], none, []⟩, ⟨some 23, .call 16 true, [.t 21,
  .t 22], none, []⟩, ⟨some 11, .alloc [.d (.int .i64 0), .nil 1], [], none, []⟩, ⟨none, .store 2, [.t 11, .t 23], none, []⟩] [2, 3, 4, 11]) (.seq (.region false [⟨some 25, .load 2
  true, [.t 11], none, []⟩, ⟨some 26, .mv, [.t 2], none, []⟩, ⟨some 27, .cvt .i64, [.t 26], none, []⟩, ⟨some 28, .mv, [.t 3], none, []⟩, ⟨some 29, .mv, [.t 4], none, []⟩, ⟨some 30,
  .call 20 true, [.t 25, .k (.d (.int .i64 0)), .t 27, .t 28, .t 29], none, []⟩, ⟨some 24, .mv, [.t 30], none, []⟩, ⟨some 31, .ext 0, [.t 24], none, []⟩, ⟨some 32, .ext 1, [.t 24],
  none, []⟩, ⟨some 33, .ext 2, [.t 24], none, []⟩, ⟨some 12, .alloc [.d (.int .i64 0), .nil 1], [], none, []⟩, ⟨none, .store 2, [.t 12, .t 31], none, []⟩, ⟨some 13, .mv, [.t 32],
  none, []⟩, ⟨some 14, .mv, [.t 33], none, []⟩] [2, 3, 11, 12, 14]) (.seq (.seq (.region false [⟨some 34, .mv, [.t 14], none, []⟩, ⟨some 35, .bin .neq, [.t 34, .k (.d (.int .i64
  0))], none, []⟩, ⟨some 36, .mv, [.t 35], none, []⟩, ⟨some 37, .mv, [.t 14], some (36, true), []⟩, ⟨some 38, .bin .neq, [.t 37, .k (.d (.int .i64 16))], some (36, true), []⟩,
  ⟨some 39, .pick, [.t 36, .t 38, .k (.d (.bool false))], none, []⟩, ⟨some 40, .mv, [.t 39], none, []⟩, ⟨some 41, .fa 1, [.t 12], some (40, false), []⟩, ⟨some 42, .load 1 false,
  [.t 41], some (40, false), []⟩, ⟨some 43, .len, [.t 42], some (40, false), []⟩, ⟨some 44, .fa 1, [.t 11], some (40, false), []⟩, ⟨some 45, .load 1 false, [.t 44], some (40,
  false), []⟩, ⟨some 46, .len, [.t 45], some (40, false), []⟩, ⟨some 47, .bin .neq, [.t 43, .t 46], some (40, false), []⟩, ⟨some 48, .pick, [.t 40, .k (.d (.bool true)), .t 47],
  none, []⟩] [2, 3, 11, 12, 48]) (.cond (.t 48) (.seq (.region false [⟨some 10, .mv, [.k (.d (.bool false))], none, []⟩] [10]) .ret) .skip)) (.seq (.seq (.region false [⟨some 15,
  .mv, [.k (.d (.int .i64 0))], none, []⟩] [2, 3, 11, 12, 15]) (.block 0 (.loop [] (.seq (.seq (.region false [⟨some 49, .mv, [.t 15], none, []⟩, ⟨some 50, .fa 1, [.t 12], none,
  []⟩, ⟨some 51, .load 1 false, [.t 50], none, []⟩, ⟨some 52, .len, [.t 51], none, []⟩, ⟨some 53, .bin .lss, [.t 49, .t 52], none, []⟩] [2, 3, 11, 12, 15, 53]) (.cond (.t 53) .skip
  (.exit 0))) (.seq (.block 1 (.seq (.region false [⟨some 56, .mv, [.t 15], none, []⟩, ⟨some 57, .mv, [.t 2], none, []⟩, ⟨some 58, .cvt .i64, [.t 57], none, []⟩, ⟨some 59, .bin
  .geq, [.t 56, .t 58], none, []⟩, ⟨some 60, .mv, [.t 59], none, []⟩, ⟨some 61, .mv, [.t 15], some (60, true), []⟩, ⟨some 62, .mv, [.t 2], some (60, true), []⟩, ⟨some 63, .cvt
  .i64, [.t 62], some (60, true), []⟩, ⟨some 64, .mv, [.t 3], some (60, true), []⟩, ⟨some 65, .len, [.t 64], some (60, true), []⟩, ⟨some 66, .bin .add, [.t 63, .t 65], some (60,
  true), []⟩, ⟨some 67, .bin .lss, [.t 61, .t 66], some (60, true), []⟩, ⟨some 68, .pick, [.t 60, .t 67, .k (.d (.bool false))], none, []⟩, ⟨some 16, .mv, [.t 68], none, []⟩] [2,
  3, 11, 12, 15, 16]) (.seq (.region true [⟨some 69, .fa 1, [.t 12], none, []⟩, ⟨some 70, .load 1 false, [.t 69], none, [0]⟩, ⟨some 71, .mv, [.t 15], none, []⟩, ⟨some 72, .ia 1,
  [.t 70, .t 71], none, [0, 1, 2]⟩, ⟨some 73, .load 1 false, [.t 72], none, [0, 1, 2, 3]⟩, ⟨some 74, .fa 1, [.t 11], none, []⟩, ⟨some 75, .load 1 false, [.t 74], none, [5]⟩, ⟨some
  76, .mv, [.t 15], none, []⟩, ⟨some 77, .ia 1, [.t 75, .t 76], none, [5, 6, 7]⟩, ⟨some 78, .load 1 false, [.t 77], none, [5, 6, 7, 8]⟩, ⟨some 79, .bin .andNot, [.t 73, .t 78],
  none, [0, 1, 2, 3, 4, 5, 6, 7, 8, 9]⟩, ⟨some 80, .bin .neq, [.t 79, .k (.d (.int .u8 0))], none, [0, 1, 2, 3, 4, 5, 6, 7, 8, 9, 10]⟩, ⟨some 81, .mv, [.t 80], none, [0, 1, 2, 3,
  4, 5, 6, 7, 8, 9, 10, 11]⟩, ⟨some 82, .mv, [.t 16], some (81, false), [0, 1, 2, 3, 4, 5, 6, 7, 8, 9, 10, 11, 12]⟩, ⟨some 83, .un .not, [.t 82], some (81, false), [0, 1, 2, 3, 4,
  5, 6, 7, 8, 9, 10, 11, 12, 13]⟩, ⟨some 84, .mv, [.t 83], some (81, false), [0, 1, 2, 3, 4, 5, 6, 7, 8, 9, 10, 11, 12, 13, 14]⟩, ⟨some 85, .fa 1, [.t 12], some (84, true), [0, 1,
  2, 3, 4, 5, 6, 7, 8, 9, 10, 11, 12, 13, 14, 15]⟩, ⟨some 86, .load 1 false, [.t 85], some (84, true), [0, 1, 2, 3, 4, 5, 6, 7, 8, 9, 10, 11, 12, 13, 14, 15, 16]⟩, ⟨some 87, .mv,
  [.t 15], some (84, true), [0, 1, 2, 3, 4, 5, 6, 7, 8, 9, 10, 11, 12, 13, 14, 15]⟩, ⟨some 88, .ia 1, [.t 86, .t 87], some (84, true), [0, 1, 2, 3, 4, 5, 6, 7, 8, 9, 10, 11, 12,
  13, 14, 15, 16, 17, 18]⟩, ⟨some 89, .load 1 false, [.t 88], some (84, true), [0, 1, 2, 3, 4, 5, 6, 7, 8, 9, 10, 11, 12, 13, 14, 15, 16, 17, 18, 19]⟩, ⟨some 90, .fa 1, [.t 11],
  some (84, true), [0, 1, 2, 3, 4, 5, 6, 7, 8, 9, 10, 11, 12, 13, 14, 15]⟩, ⟨some 91, .load 1 false, [.t 90], some (84, true), [0, 1, 2, 3, 4, 5, 6, 7, 8, 9, 10, 11, 12, 13, 14,
  15, 21]⟩, ⟨some 92, .mv, [.t 15], some (84, true), [0, 1, 2, 3, 4, 5, 6, 7, 8, 9, 10, 11, 12, 13, 14, 15]⟩, ⟨some 93, .ia 1, [.t 91, .t 92], some (84, true), [0, 1, 2, 3, 4, 5,
  6, 7, 8, 9, 10, 11, 12, 13, 14, 15, 21, 22, 23]⟩, ⟨some 94, .load 1 false, [.t 93], some (84, true), [0, 1, 2, 3, 4, 5, 6, 7, 8, 9, 10, 11, 12, 13, 14, 15, 21, 22, 23, 24]⟩,
  ⟨some 95, .bin .neq, [.t 89, .t 94], some (84, true), [0, 1, 2, 3, 4, 5, 6, 7, 8, 9, 10, 11, 12, 13, 14, 15, 16, 17, 18, 19, 20, 21, 22, 23, 24, 25]⟩, ⟨some 96, .pick, [.t 84, .t
  95, .k (.d (.bool false))], some (81, false), [0, 1, 2, 3, 4, 5, 6, 7, 8, 9, 10, 11, 12, 13, 14, 15, 16, 17, 18, 19, 20, 21, 22, 23, 24, 25, 26]⟩, ⟨some 97, .pick, [.t 81, .k (.d
  (.bool true)), .t 96], none, [0, 1, 2, 3, 4, 5, 6, 7, 8, 9, 10, 11, 12, 13, 14, 15, 16, 17, 18, 19, 20, 21, 22, 23, 24, 25, 26, 27]⟩] [2, 3, 11, 12, 15, 97]) (.cond (.t 97) (.seq
  (.region false [⟨some 10, .mv, [.k (.d (.bool false))], none, []⟩] [10]) .ret) .skip)))) (.region false [⟨some 54, .mv, [.t 15], none, []⟩, ⟨some 55, .bin .add, [.t 54, .k (.d
  (.int .i64 1))], none, []⟩, ⟨some 15, .mv, [.t 55], none, []⟩] [2, 3, 11, 12, 15])))))) (.seq (.region false [⟨some 98, .call 9 false, [], none, []⟩, ⟨some 10, .mv, [.t 98],
  none, []⟩] [10]) .ret))))))
def passkeylaw7FlashBitsRr : List RR := [.t 10]
theorem passkeylaw7FlashBitsC : compFn Try.prog 7 passkeylaw7FlashBitsH = some (passkeylaw7FlashBitsRc, passkeylaw7FlashBitsRr, 99) := by kernel_rfl
theorem passkeylaw7FlashBitsOK (a0 : Int) (a1 : List (Int)) (a2 : BitVec 8) (a3 : List (BitVec 8)) (a4 : Int) (res : Bool) (h : passkeylaw7FlashBits a0 a1 a2 a3 a4 = some res) : CallOK Try.prog 7 [.d (eI a0), .d ((eL 1 eI) a1), .d (eU8 a2), .d ((eL 1 eU8) a3), .d (eI a4)] [] (.d (eB res)) [] := by
  unfold passkeylaw7FlashBits at h
  refine callOK passkeylaw7FlashBitsC fm rfl ?_
  simp only [initE, initM, nbor, List.map_cons, List.map_nil, Nat.reduceAdd]
  unfold passkeylaw7FlashBitsRc
  refine rwp_seq fun K1 hK1 => ?_
  refine rwp_region fun K2 hK2 => ?_
  refine st0 128 rfl (ok (mv (.d (eB false)))) ?_
  refine hK2 _ _ ?_
  simp only [thenK, blockK, keepE, updM, List.filter_cons, List.filter_nil, List.nil_append, List.cons_append, List.map_cons, List.map_nil, envE, Mem.get, Nat.reduceEqDiff, reduceIte, Option.isNone_none, Option.isNone_some, Bool.false_eq_true, List.length_cons, List.length_nil, Nat.reduceAdd, Nat.reduceMul]
  refine hK1 _ _ _ ?_
  refine rwp_seq fun K3 hK3 => ?_
  refine rwp_seq fun K4 hK4 => ?_
  refine rwp_region fun K5 hK5 => ?_
  refine st0 192 rfl (ok (mv (.d ((eL 1 eU8) a3)))) ?_
  refine st0 256 rfl (ok (lenL _ _)) ?_
  refine st0 320 rfl (ok (gtrI _ (200 : Int))) ?_
  refine hK5 _ _ ?_
  simp only [thenK, blockK, keepE, updM, List.filter_cons, List.filter_nil, List.nil_append, List.cons_append, List.map_cons, List.map_nil, envE, Mem.get, Nat.reduceEqDiff, reduceIte, Option.isNone_none, Option.isNone_some, Bool.false_eq_true, List.length_cons, List.length_nil, Nat.reduceAdd, Nat.reduceMul]
  refine hK4 _ _ _ ?_
  rcases Bool.eq_false_or_eq_true ((decide ((200 : Int) < (a3.length : Int)))) with h6 | h6
  · replace h := ite_t h h6
    refine rwp_t (isT h6) ?_
    refine rwp_seq fun K7 hK7 => ?_
    refine rwp_region fun K8 hK8 => ?_
    obtain ⟨y9, h10, h⟩ := bind_inv h
    refine st0 384 rfl (call_ok (v := .d (eB y9)) (u := []) ar_nil rfl (passkeylaw7awakeOK  y9 h10) rfl) ?_
    refine st0 448 rfl (ok (mv (.d (eB y9)))) ?_
    refine hK8 _ _ ?_
    simp only [thenK, blockK, keepE, updM, List.filter_cons, List.filter_nil, List.nil_append, List.cons_append, List.map_cons, List.map_nil, envE, Mem.get, Nat.reduceEqDiff, reduceIte, Option.isNone_none, Option.isNone_some, Bool.false_eq_true, List.length_cons, List.length_nil, Nat.reduceAdd, Nat.reduceMul]
    refine hK7 _ _ _ ?_
    refine rwp_ret ?_
    obtain rfl := Option.some.inj h
    try simp only [thenK, blockK, reduceIte]
    exact end_ok trivial (rs_t (v := .d (eB y9)) rfl rs_nil) (en_d (to_d _) en_nil) ou_nil (by first | exact eok rfl rfl rfl rfl trivial | (refine eok ?_ ?_ ?_ ?_ ?_ <;> first | rfl | exact trivial | simp [retM, Mem.get, PV.renL, PV.ren, Blk.ren, comps, rhoR, rhoM, appN, PV.refsL, PV.refs, keys, nodupB, Blk.refs, allIn, Blk.bor]))
  · replace h := ite_f h h6
    refine rwp_f (isF h6) ?_
    refine rwp_skip ?_
    refine hK3 _ _ _ ?_
    refine rwp_seq fun K11 hK11 => ?_
    refine rwp_region fun K12 hK12 => ?_
    refine st0 384 rfl (ok (mv (.d (eI a0)))) ?_
    refine st0 448 rfl (ok (mv (.d ((eL 1 eI) a1)))) ?_
    obtain ⟨y13, h14, h⟩ := bind_inv h
    refine st0 512 rfl (call_ok (v := .d (eTApiFlash y13)) (u := []) (ar_d (eI a0) (ar_d ((eL 1 eI) a1) ar_nil)) rfl (passkeylaw7madeOK a0 a1 y13 h14) rfl) ?_
    refine st1 576 rfl (mem' := [(512, .var .mine [.d (eI (0 : Int)), .nil 1])]) (ok (alc (zs := [.d (eI (0 : Int)), .nil 1]))) rfl ?_
    refine stn 640 rfl (mem' := [(512, .var .mine [.d (eI y13.PageSize), .d ((eL 1 eU8) y13.Bytes)])]) (ok (sto_v (ps' := [.d (eI y13.PageSize), .d ((eL 1 eU8) y13.Bytes)]) rfl rfl rfl rfl)) rfl ?_
    refine hK12 _ _ ?_
    simp only [thenK, blockK, keepE, updM, List.filter_cons, List.filter_nil, List.nil_append, List.cons_append, List.map_cons, List.map_nil, envE, Mem.get, Nat.reduceEqDiff, reduceIte, Option.isNone_none, Option.isNone_some, Bool.false_eq_true, List.length_cons, List.length_nil, Nat.reduceAdd, Nat.reduceMul]
    refine hK11 _ _ _ ?_
    refine rwp_seq fun K15 hK15 => ?_
    refine rwp_region fun K16 hK16 => ?_
    refine st0 704 rfl (ok (ld_v (v := .d (.agg [eI y13.PageSize, (eL 1 eU8) y13.Bytes])) rfl rfl rfl)) ?_
    refine st0 768 rfl (ok (mv (.d (eU8 a2)))) ?_
    refine st0 832 rfl (ok (toI8 _)) ?_
    refine st0 896 rfl (ok (mv (.d ((eL 1 eU8) a3)))) ?_
    refine st0 960 rfl (ok (mv (.d (eI a4)))) ?_
    obtain ⟨y17, h18, h⟩ := bind_inv h
    refine st0 1024 rfl (call_ok (v := .tup [.d (eTApiFlash y17.1), .d (eI y17.2.1), .d (eI y17.2.2)]) (u := []) (ar_d (eTApiFlash (TApiFlash.mk y13.PageSize y13.Bytes)) (ar_d (eI (0 : Int)) (ar_d (eI (a2.toNat : Int)) (ar_d ((eL 1 eU8) a3) (ar_d (eI a4) ar_nil))))) rfl (flashProgramOK (TApiFlash.mk y13.PageSize y13.Bytes) (0 : Int) (a2.toNat : Int) a3 a4 y17 h18) rfl) ?_
    refine st0 1088 rfl (ok (mv (.tup [.d (eTApiFlash y17.1), .d (eI y17.2.1), .d (eI y17.2.2)]))) ?_
    refine st0 1152 rfl (ok (extr (v := .d (eTApiFlash y17.1)) rfl rfl)) ?_
    refine st0 1216 rfl (ok (extr (v := .d (eI y17.2.1)) rfl rfl)) ?_
    refine st0 1280 rfl (ok (extr (v := .d (eI y17.2.2)) rfl rfl)) ?_
    refine st1 1344 rfl (mem' := [(1280, .var .mine [.d (eI (0 : Int)), .nil 1]), (512, .var .mine [.d (eI y13.PageSize), .d ((eL 1 eU8) y13.Bytes)])]) (ok (alc (zs := [.d (eI (0 : Int)), .nil 1]))) rfl ?_
    refine stn 1408 rfl (mem' := [(1280, .var .mine [.d (eI y17.1.PageSize), .d ((eL 1 eU8) y17.1.Bytes)]), (512, .var .mine [.d (eI y13.PageSize), .d ((eL 1 eU8) y13.Bytes)])]) (ok (sto_v (ps' := [.d (eI y17.1.PageSize), .d ((eL 1 eU8) y17.1.Bytes)]) rfl rfl rfl rfl)) rfl ?_
    refine st0 1472 rfl (ok (mv (.d (eI y17.2.1)))) ?_
    refine st0 1536 rfl (ok (mv (.d (eI y17.2.2)))) ?_
    refine hK16 _ _ ?_
    simp only [thenK, blockK, keepE, updM, List.filter_cons, List.filter_nil, List.nil_append, List.cons_append, List.map_cons, List.map_nil, envE, Mem.get, Nat.reduceEqDiff, reduceIte, Option.isNone_none, Option.isNone_some, Bool.false_eq_true, List.length_cons, List.length_nil, Nat.reduceAdd, Nat.reduceMul]
    refine hK15 _ _ _ ?_
    refine rwp_seq fun K19 hK19 => ?_
    refine rwp_join ([], []) 2560 (fun env mem => ∃ (v20 : Bool), passkeylaw7FlashBitsJ1 a2 a3 y13 y17 v20 = some res ∧ env = [(2, .d (eU8 a2)), (3, .d ((eL 1 eU8) a3)), (11, .ptr 512 0), (12, .ptr 1280 0), (48, .d (eB v20))] ∧ mem = [(512, .var .mine [.d (eI y13.PageSize), .d ((eL 1 eU8) y13.Bytes)]), (1280, .var .mine [.d (eI y17.1.PageSize), .d ((eL 1 eU8) y17.1.Bytes)])]) (fun _ _ hI => ?_) (fun K21 hK21 => ?_)
    · obtain ⟨v20, h, rfl, rfl⟩ := hI
      unfold passkeylaw7FlashBitsJ1 at h
      rcases Bool.eq_false_or_eq_true (v20) with h22 | h22
      · replace h := ite_t h h22
        refine rwp_t (isT h22) ?_
        refine rwp_seq fun K23 hK23 => ?_
        refine rwp_region fun K24 hK24 => ?_
        refine st0 2624 rfl (ok (mv (.d (eB false)))) ?_
        refine hK24 _ _ ?_
        simp only [thenK, blockK, keepE, updM, List.filter_cons, List.filter_nil, List.nil_append, List.cons_append, List.map_cons, List.map_nil, envE, Mem.get, Nat.reduceEqDiff, reduceIte, Option.isNone_none, Option.isNone_some, Bool.false_eq_true, List.length_cons, List.length_nil, Nat.reduceAdd, Nat.reduceMul]
        refine hK23 _ _ _ ?_
        refine rwp_ret ?_
        obtain rfl := Option.some.inj h
        try simp only [thenK, blockK, reduceIte]
        exact end_ok trivial (rs_t (v := .d (eB false)) rfl rs_nil) (en_d (to_d _) en_nil) ou_nil (by first | exact eok rfl rfl rfl rfl trivial | (refine eok ?_ ?_ ?_ ?_ ?_ <;> first | rfl | exact trivial | simp [retM, Mem.get, PV.renL, PV.ren, Blk.ren, comps, rhoR, rhoM, appN, PV.refsL, PV.refs, keys, nodupB, Blk.refs, allIn, Blk.bor]))
      · replace h := ite_f h h22
        refine rwp_f (isF h22) ?_
        refine rwp_skip ?_
        refine hK19 _ _ _ ?_
        refine rwp_join ([], []) 6528 (fun env mem => passkeylaw7FlashBitsJ2 = some res ∧ env = [] ∧ mem = []) (fun _ _ hI => ?_) (fun K25 hK25 => ?_)
        · obtain ⟨h, rfl, rfl⟩ := hI
          unfold passkeylaw7FlashBitsJ2 at h
          refine rwp_seq fun K26 hK26 => ?_
          refine rwp_region fun K27 hK27 => ?_
          obtain ⟨y28, h29, h⟩ := bind_inv h
          refine st0 6592 rfl (call_ok (v := .d (eB y28)) (u := []) ar_nil rfl (passkeylaw7awakeOK  y28 h29) rfl) ?_
          refine st0 6656 rfl (ok (mv (.d (eB y28)))) ?_
          refine hK27 _ _ ?_
          simp only [thenK, blockK, keepE, updM, List.filter_cons, List.filter_nil, List.nil_append, List.cons_append, List.map_cons, List.map_nil, envE, Mem.get, Nat.reduceEqDiff, reduceIte, Option.isNone_none, Option.isNone_some, Bool.false_eq_true, List.length_cons, List.length_nil, Nat.reduceAdd, Nat.reduceMul]
          refine hK26 _ _ _ ?_
          refine rwp_ret ?_
          obtain rfl := Option.some.inj h
          try simp only [thenK, blockK, reduceIte]
          exact end_ok trivial (rs_t (v := .d (eB y28)) rfl rs_nil) (en_d (to_d _) en_nil) ou_nil (by first | exact eok rfl rfl rfl rfl trivial | (refine eok ?_ ?_ ?_ ?_ ?_ <;> first | rfl | exact trivial | simp [retM, Mem.get, PV.renL, PV.ren, Blk.ren, comps, rhoR, rhoM, appN, PV.refsL, PV.refs, keys, nodupB, Blk.refs, allIn, Blk.bor]))
        · refine rwp_seq fun K30 hK30 => ?_
          refine rwp_region fun K31 hK31 => ?_
          refine st0 2624 rfl (ok (mv (.d (eI (0 : Int))))) ?_
          refine hK31 _ _ ?_
          simp only [thenK, blockK, keepE, updM, List.filter_cons, List.filter_nil, List.nil_append, List.cons_append, List.map_cons, List.map_nil, envE, Mem.get, Nat.reduceEqDiff, reduceIte, Option.isNone_none, Option.isNone_some, Bool.false_eq_true, List.length_cons, List.length_nil, Nat.reduceAdd, Nat.reduceMul]
          refine hK30 _ _ _ ?_
          refine rwp_block fun K32 hK32 => ?_
          refine rwp_loop ([], []) 6144 (fun k env mem => ∃ (v33 : Int), passkeylaw7FlashBitsL3 a2 a3 y13 y17 k v33 = some res ∧ env = [(2, .d (eU8 a2)), (3, .d ((eL 1 eU8) a3)), (11, .ptr 512 0), (12, .ptr 1280 0), (15, .d (eI v33))] ∧ mem = [(512, .var .mine [.d (eI y13.PageSize), .d ((eL 1 eU8) y13.Bytes)]), (1280, .var .mine [.d (eI y17.1.PageSize), .d ((eL 1 eU8) y17.1.Bytes)])]) FUEL ⟨_, _, Settled.refl, _, _, ⟨_, h, rfl, rfl⟩, ⟨rfl, ⟨⟨rfl, rfl⟩, ⟨⟨rfl, rfl⟩, ⟨⟨rfl, rfl⟩, ⟨⟨rfl, rfl⟩, ⟨⟨rfl, rfl⟩, trivial⟩⟩⟩⟩⟩, ⟨⟨rfl, rfl⟩, ⟨⟨rfl, rfl⟩, trivial⟩⟩⟩, rfl⟩ (fun k3 env1 mem1 hI K34 hK34 => ?_)
          obtain ⟨v33, h, rfl, rfl⟩ := hI
          cases k3 with
          | zero => simp [passkeylaw7FlashBitsL3] at h
          | succ k3 =>
            rw [passkeylaw7FlashBitsL3] at h
            refine rwp_seq fun K35 hK35 => ?_
            refine rwp_seq fun K36 hK36 => ?_
            refine rwp_region fun K37 hK37 => ?_
            refine st0 6208 rfl (ok (mv (.d (eI v33)))) ?_
            refine st0 6272 rfl (ok (fa_k 1 rfl)) ?_
            refine st0 6336 rfl (ok (ld_v (v := .d ((eL 1 eU8) y17.1.Bytes)) rfl rfl rfl)) ?_
            refine st0 6400 rfl (ok (lenL _ _)) ?_
            refine st0 6464 rfl (ok (lssI _ _)) ?_
            refine hK37 _ _ ?_
            simp only [thenK, blockK, keepE, updM, List.filter_cons, List.filter_nil, List.nil_append, List.cons_append, List.map_cons, List.map_nil, envE, Mem.get, Nat.reduceEqDiff, reduceIte, Option.isNone_none, Option.isNone_some, Bool.false_eq_true, List.length_cons, List.length_nil, Nat.reduceAdd, Nat.reduceMul]
            refine hK36 _ _ _ ?_
            rcases Bool.eq_false_or_eq_true ((decide (v33 < (y17.1.Bytes.length : Int)))) with h38 | h38
            · replace h := ite_t h h38
              refine rwp_t (isT h38) ?_
              refine rwp_skip ?_
              refine hK35 _ _ _ ?_
              refine rwp_seq fun K39 hK39 => ?_
              refine rwp_block fun K40 hK40 => ?_
              refine rwp_join ([], []) 7424 (fun env mem => ∃ (v41 : Bool), passkeylaw7FlashBitsJ4 (passkeylaw7FlashBitsL3 a2 a3 y13 y17 k3) y13 y17 v33 v41 = some res ∧ env = [(2, .d (eU8 a2)), (3, .d ((eL 1 eU8) a3)), (11, .ptr 512 0), (12, .ptr 1280 0), (15, .d (eI v33)), (16, .d (eB v41))] ∧ mem = [(512, .var .mine [.d (eI y13.PageSize), .d ((eL 1 eU8) y13.Bytes)]), (1280, .var .mine [.d (eI y17.1.PageSize), .d ((eL 1 eU8) y17.1.Bytes)])]) (fun _ _ hI => ?_) (fun K42 hK42 => ?_)
              · obtain ⟨v41, h, rfl, rfl⟩ := hI
                unfold passkeylaw7FlashBitsJ4 at h
                refine rwp_join ([], []) 9344 (fun env mem => ∃ (v43 : Bool), passkeylaw7FlashBitsJ5 (passkeylaw7FlashBitsL3 a2 a3 y13 y17 k3) v33 v43 = some res ∧ env = [(2, .d (eU8 a2)), (3, .d ((eL 1 eU8) a3)), (11, .ptr 512 0), (12, .ptr 1280 0), (15, .d (eI v33)), (97, .d (eB v43))] ∧ mem = [(512, .var .mine [.d (eI y13.PageSize), .d ((eL 1 eU8) y13.Bytes)]), (1280, .var .mine [.d (eI y17.1.PageSize), .d ((eL 1 eU8) y17.1.Bytes)])]) (fun _ _ hI => ?_) (fun K44 hK44 => ?_)
                · obtain ⟨v43, h, rfl, rfl⟩ := hI
                  unfold passkeylaw7FlashBitsJ5 at h
                  rcases Bool.eq_false_or_eq_true (v43) with h45 | h45
                  · replace h := ite_t h h45
                    refine rwp_t (isT h45) ?_
                    refine rwp_seq fun K46 hK46 => ?_
                    refine rwp_region fun K47 hK47 => ?_
                    refine st0 9408 rfl (ok (mv (.d (eB false)))) ?_
                    refine hK47 _ _ ?_
                    simp only [thenK, blockK, keepE, updM, List.filter_cons, List.filter_nil, List.nil_append, List.cons_append, List.map_cons, List.map_nil, envE, Mem.get, Nat.reduceEqDiff, reduceIte, Option.isNone_none, Option.isNone_some, Bool.false_eq_true, List.length_cons, List.length_nil, Nat.reduceAdd, Nat.reduceMul]
                    refine hK46 _ _ _ ?_
                    refine rwp_ret ?_
                    obtain rfl := Option.some.inj h
                    try simp only [thenK, blockK, reduceIte]
                    exact end_ok trivial (rs_t (v := .d (eB false)) rfl rs_nil) (en_d (to_d _) en_nil) ou_nil (by first | exact eok rfl rfl rfl rfl trivial | (refine eok ?_ ?_ ?_ ?_ ?_ <;> first | rfl | exact trivial | simp [retM, Mem.get, PV.renL, PV.ren, Blk.ren, comps, rhoR, rhoM, appN, PV.refsL, PV.refs, keys, nodupB, Blk.refs, allIn, Blk.bor]))
                  · replace h := ite_f h h45
                    refine rwp_f (isF h45) ?_
                    refine rwp_skip ?_
                    refine hK40 _ _ _ ?_
                    refine hK39 _ _ _ ?_
                    refine rwp_region fun K48 hK48 => ?_
                    refine st0 9408 rfl (ok (mv (.d (eI v33)))) ?_
                    refine st0 9472 rfl (ok (addI _ (1 : Int))) ?_
                    refine st0 9536 rfl (ok (mv (.d (eI (w64 (v33 + (1 : Int))))))) ?_
                    refine hK48 _ _ ?_
                    simp only [thenK, blockK, keepE, updM, List.filter_cons, List.filter_nil, List.nil_append, List.cons_append, List.map_cons, List.map_nil, envE, Mem.get, Nat.reduceEqDiff, reduceIte, Option.isNone_none, Option.isNone_some, Bool.false_eq_true, List.length_cons, List.length_nil, Nat.reduceAdd, Nat.reduceMul]
                    exact hK34.out _ _ _ k3 (Nat.lt_succ_self k3) ⟨_, _, Settled.refl, _, _, ⟨_, h, rfl, rfl⟩, ⟨rfl, ⟨⟨rfl, rfl⟩, ⟨⟨rfl, rfl⟩, ⟨⟨rfl, rfl⟩, ⟨⟨rfl, rfl⟩, ⟨⟨rfl, rfl⟩, trivial⟩⟩⟩⟩⟩, ⟨⟨rfl, rfl⟩, ⟨⟨rfl, rfl⟩, trivial⟩⟩⟩, rfl⟩
                · refine rwp_draw fun K49 hK49 => ?_
                  refine dr0 7488 rfl (ok (fa_k 1 rfl)) (by kernel_rfl) ?_
                  refine dr0 7552 rfl (ok (ld_v (v := .d ((eL 1 eU8) y17.1.Bytes)) rfl rfl rfl)) (by kernel_rfl) ?_
                  refine dr0 7616 rfl (ok (mv (.d (eI v33)))) (by kernel_rfl) ?_
                  obtain ⟨h50, h⟩ := asq_inv h
                  refine dr0 7680 rfl (ok (iaL (e := eU8) (xs := y17.1.Bytes) 0#8 h50)) (by kernel_rfl) ?_
                  refine dr0 7744 rfl (ok (ld_i (v := eU8 (y17.1.Bytes.getD v33.toNat 0#8)) rfl rfl)) (by kernel_rfl) ?_
                  refine dr0 7808 rfl (ok (fa_k 1 rfl)) (by kernel_rfl) ?_
                  refine dr0 7872 rfl (ok (ld_v (v := .d ((eL 1 eU8) y13.Bytes)) rfl rfl rfl)) (by kernel_rfl) ?_
                  refine dr0 7936 rfl (ok (mv (.d (eI v33)))) (by kernel_rfl) ?_
                  obtain ⟨h51, h⟩ := asq_inv h
                  refine dr0 8000 rfl (ok (iaL (e := eU8) (xs := y13.Bytes) 0#8 h51)) (by kernel_rfl) ?_
                  refine dr0 8064 rfl (ok (ld_i (v := eU8 (y13.Bytes.getD v33.toNat 0#8)) rfl rfl)) (by kernel_rfl) ?_
                  obtain ⟨v52, h53, h⟩ := lett_inv h
                  refine dr0e 8128 rfl (ok (andNot8 _ _)) (congrArg (fun z => PV.d (eU8 z)) h53) (by kernel_rfl) ?_
                  refine dr0 8192 rfl (ok (neq8 _ 0#8)) (by kernel_rfl) ?_
                  refine dr0 8256 rfl (ok (mv (.d (eB (v52 != 0#8))))) (by kernel_rfl) ?_
                  rcases Bool.eq_false_or_eq_true ((v52 != 0#8)) with h54 | h54
                  · replace h := ite_t h h54
                    refine drGN 8320 rfl rfl h54 ?_
                    refine drGN 8384 rfl rfl h54 ?_
                    refine drGN 8448 rfl rfl h54 ?_
                    refine drGS 8512 rfl rfl ?_
                    refine drGS 8576 rfl rfl ?_
                    refine drGS 8640 rfl rfl ?_
                    refine drGS 8704 rfl rfl ?_
                    refine drGS 8768 rfl rfl ?_
                    refine drGS 8832 rfl rfl ?_
                    refine drGS 8896 rfl rfl ?_
                    refine drGS 8960 rfl rfl ?_
                    refine drGS 9024 rfl rfl ?_
                    refine drGS 9088 rfl rfl ?_
                    refine drGS 9152 rfl rfl ?_
                    refine drGN 9216 rfl rfl h54 ?_
                    refine dr0 9280 rfl (ok (pick_t h54 (.d (eB true)) _)) (by kernel_rfl) ?_
                    refine hK49 _ _ ?_
                    simp only [thenK, blockK, keepE, updM, List.filter_cons, List.filter_nil, List.nil_append, List.cons_append, List.map_cons, List.map_nil, envE, Mem.get, Nat.reduceEqDiff, reduceIte, Option.isNone_none, Option.isNone_some, Bool.false_eq_true, List.length_cons, List.length_nil, Nat.reduceAdd, Nat.reduceMul]
                    exact hK44 _ _ _ ⟨_, _, Settled.refl, _, _, ⟨_, h, rfl, rfl⟩, ⟨rfl, ⟨⟨rfl, rfl⟩, ⟨⟨rfl, rfl⟩, ⟨⟨rfl, rfl⟩, ⟨⟨rfl, rfl⟩, ⟨⟨rfl, rfl⟩, ⟨⟨rfl, rfl⟩, trivial⟩⟩⟩⟩⟩⟩, ⟨⟨rfl, rfl⟩, ⟨⟨rfl, rfl⟩, trivial⟩⟩⟩, rfl⟩
                  · replace h := ite_f h h54
                    refine drG (isF h54) ?_
                    refine dr0 8320 rfl (ok (mv (.d (eB v41)))) (by kernel_rfl) ?_
                    refine drG (isF h54) ?_
                    refine dr0 8384 rfl (ok (notB _)) (by kernel_rfl) ?_
                    refine drG (isF h54) ?_
                    refine dr0 8448 rfl (ok (mv (.d (eB (!v41))))) (by kernel_rfl) ?_
                    rcases Bool.eq_false_or_eq_true ((!v41)) with h55 | h55
                    · replace h := ite_t h h55
                      refine drG (isT h55) ?_
                      refine dr0 8512 rfl (ok (fa_k 1 rfl)) (by kernel_rfl) ?_
                      refine drG (isT h55) ?_
                      refine dr0 8576 rfl (ok (ld_v (v := .d ((eL 1 eU8) y17.1.Bytes)) rfl rfl rfl)) (by kernel_rfl) ?_
                      refine drG (isT h55) ?_
                      refine dr0 8640 rfl (ok (mv (.d (eI v33)))) (by kernel_rfl) ?_
                      refine drG (isT h55) ?_
                      obtain ⟨h56, h⟩ := asq_inv h
                      refine dr0 8704 rfl (ok (iaL (e := eU8) (xs := y17.1.Bytes) 0#8 h56)) (by kernel_rfl) ?_
                      refine drG (isT h55) ?_
                      refine dr0 8768 rfl (ok (ld_i (v := eU8 (y17.1.Bytes.getD v33.toNat 0#8)) rfl rfl)) (by kernel_rfl) ?_
                      refine drG (isT h55) ?_
                      refine dr0 8832 rfl (ok (fa_k 1 rfl)) (by kernel_rfl) ?_
                      refine drG (isT h55) ?_
                      refine dr0 8896 rfl (ok (ld_v (v := .d ((eL 1 eU8) y13.Bytes)) rfl rfl rfl)) (by kernel_rfl) ?_
                      refine drG (isT h55) ?_
                      refine dr0 8960 rfl (ok (mv (.d (eI v33)))) (by kernel_rfl) ?_
                      refine drG (isT h55) ?_
                      obtain ⟨h57, h⟩ := asq_inv h
                      refine dr0 9024 rfl (ok (iaL (e := eU8) (xs := y13.Bytes) 0#8 h57)) (by kernel_rfl) ?_
                      refine drG (isT h55) ?_
                      refine dr0 9088 rfl (ok (ld_i (v := eU8 (y13.Bytes.getD v33.toNat 0#8)) rfl rfl)) (by kernel_rfl) ?_
                      refine drG (isT h55) ?_
                      refine dr0 9152 rfl (ok (neq8 _ _)) (by kernel_rfl) ?_
                      refine drG (isF h54) ?_
                      refine dr0 9216 rfl (ok (pick_t h55 (.d (eB ((y17.1.Bytes.getD v33.toNat 0#8) != (y13.Bytes.getD v33.toNat 0#8)))) _)) (by kernel_rfl) ?_
                      refine dr0 9280 rfl (ok (pick_f h54 _ (.d (eB ((y17.1.Bytes.getD v33.toNat 0#8) != (y13.Bytes.getD v33.toNat 0#8)))))) (by kernel_rfl) ?_
                      refine hK49 _ _ ?_
                      simp only [thenK, blockK, keepE, updM, List.filter_cons, List.filter_nil, List.nil_append, List.cons_append, List.map_cons, List.map_nil, envE, Mem.get, Nat.reduceEqDiff, reduceIte, Option.isNone_none, Option.isNone_some, Bool.false_eq_true, List.length_cons, List.length_nil, Nat.reduceAdd, Nat.reduceMul]
                      exact hK44 _ _ _ ⟨_, _, Settled.refl, _, _, ⟨_, h, rfl, rfl⟩, ⟨rfl, ⟨⟨rfl, rfl⟩, ⟨⟨rfl, rfl⟩, ⟨⟨rfl, rfl⟩, ⟨⟨rfl, rfl⟩, ⟨⟨rfl, rfl⟩, ⟨⟨rfl, rfl⟩, trivial⟩⟩⟩⟩⟩⟩, ⟨⟨rfl, rfl⟩, ⟨⟨rfl, rfl⟩, trivial⟩⟩⟩, rfl⟩
                    · replace h := ite_f h h55
                      refine drGN 8512 rfl rfl h55 ?_
                      refine drGN 8576 rfl rfl h55 ?_
                      refine drGN 8640 rfl rfl h55 ?_
                      refine drGN 8704 rfl rfl h55 ?_
                      refine drGN 8768 rfl rfl h55 ?_
                      refine drGN 8832 rfl rfl h55 ?_
                      refine drGN 8896 rfl rfl h55 ?_
                      refine drGN 8960 rfl rfl h55 ?_
                      refine drGN 9024 rfl rfl h55 ?_
                      refine drGN 9088 rfl rfl h55 ?_
                      refine drGN 9152 rfl rfl h55 ?_
                      refine drG (isF h54) ?_
                      refine dr0 9216 rfl (ok (pick_f h55 _ (.d (eB false)))) (by kernel_rfl) ?_
                      refine dr0 9280 rfl (ok (pick_f h54 _ (.d (eB false)))) (by kernel_rfl) ?_
                      refine hK49 _ _ ?_
                      simp only [thenK, blockK, keepE, updM, List.filter_cons, List.filter_nil, List.nil_append, List.cons_append, List.map_cons, List.map_nil, envE, Mem.get, Nat.reduceEqDiff, reduceIte, Option.isNone_none, Option.isNone_some, Bool.false_eq_true, List.length_cons, List.length_nil, Nat.reduceAdd, Nat.reduceMul]
                      exact hK44 _ _ _ ⟨_, _, Settled.refl, _, _, ⟨_, h, rfl, rfl⟩, ⟨rfl, ⟨⟨rfl, rfl⟩, ⟨⟨rfl, rfl⟩, ⟨⟨rfl, rfl⟩, ⟨⟨rfl, rfl⟩, ⟨⟨rfl, rfl⟩, ⟨⟨rfl, rfl⟩, trivial⟩⟩⟩⟩⟩⟩, ⟨⟨rfl, rfl⟩, ⟨⟨rfl, rfl⟩, trivial⟩⟩⟩, rfl⟩
              · refine rwp_region fun K58 hK58 => ?_
                refine st0 6528 rfl (ok (mv (.d (eI v33)))) ?_
                refine st0 6592 rfl (ok (mv (.d (eU8 a2)))) ?_
                refine st0 6656 rfl (ok (toI8 _)) ?_
                refine st0 6720 rfl (ok (geqI _ _)) ?_
                refine st0 6784 rfl (ok (mv (.d (eB (decide ((a2.toNat : Int) ≤ v33)))))) ?_
                rcases Bool.eq_false_or_eq_true ((decide ((a2.toNat : Int) ≤ v33))) with h59 | h59
                · replace h := ite_t h h59
                  refine stG (isT h59) ?_
                  refine st0 6848 rfl (ok (mv (.d (eI v33)))) ?_
                  refine stG (isT h59) ?_
                  refine st0 6912 rfl (ok (mv (.d (eU8 a2)))) ?_
                  refine stG (isT h59) ?_
                  refine st0 6976 rfl (ok (toI8 _)) ?_
                  refine stG (isT h59) ?_
                  refine st0 7040 rfl (ok (mv (.d ((eL 1 eU8) a3)))) ?_
                  refine stG (isT h59) ?_
                  refine st0 7104 rfl (ok (lenL _ _)) ?_
                  refine stG (isT h59) ?_
                  refine st0 7168 rfl (ok (addI _ _)) ?_
                  refine stG (isT h59) ?_
                  refine st0 7232 rfl (ok (lssI _ _)) ?_
                  refine st0 7296 rfl (ok (pick_t h59 (.d (eB (decide (v33 < (w64 ((a2.toNat : Int) + (a3.length : Int))))))) _)) ?_
                  refine st0 7360 rfl (ok (mv (.d (eB (decide (v33 < (w64 ((a2.toNat : Int) + (a3.length : Int))))))))) ?_
                  refine hK58 _ _ ?_
                  simp only [thenK, blockK, keepE, updM, List.filter_cons, List.filter_nil, List.nil_append, List.cons_append, List.map_cons, List.map_nil, envE, Mem.get, Nat.reduceEqDiff, reduceIte, Option.isNone_none, Option.isNone_some, Bool.false_eq_true, List.length_cons, List.length_nil, Nat.reduceAdd, Nat.reduceMul]
                  exact hK42 _ _ _ ⟨_, _, Settled.refl, _, _, ⟨_, h, rfl, rfl⟩, ⟨rfl, ⟨⟨rfl, rfl⟩, ⟨⟨rfl, rfl⟩, ⟨⟨rfl, rfl⟩, ⟨⟨rfl, rfl⟩, ⟨⟨rfl, rfl⟩, ⟨⟨rfl, rfl⟩, trivial⟩⟩⟩⟩⟩⟩, ⟨⟨rfl, rfl⟩, ⟨⟨rfl, rfl⟩, trivial⟩⟩⟩, rfl⟩
                · replace h := ite_f h h59
                  refine stGN 6848 rfl rfl h59 ?_
                  refine stGN 6912 rfl rfl h59 ?_
                  refine stGN 6976 rfl rfl h59 ?_
                  refine stGN 7040 rfl rfl h59 ?_
                  refine stGN 7104 rfl rfl h59 ?_
                  refine stGN 7168 rfl rfl h59 ?_
                  refine stGN 7232 rfl rfl h59 ?_
                  refine st0 7296 rfl (ok (pick_f h59 _ (.d (eB false)))) ?_
                  refine st0 7360 rfl (ok (mv (.d (eB false)))) ?_
                  refine hK58 _ _ ?_
                  simp only [thenK, blockK, keepE, updM, List.filter_cons, List.filter_nil, List.nil_append, List.cons_append, List.map_cons, List.map_nil, envE, Mem.get, Nat.reduceEqDiff, reduceIte, Option.isNone_none, Option.isNone_some, Bool.false_eq_true, List.length_cons, List.length_nil, Nat.reduceAdd, Nat.reduceMul]
                  exact hK42 _ _ _ ⟨_, _, Settled.refl, _, _, ⟨_, h, rfl, rfl⟩, ⟨rfl, ⟨⟨rfl, rfl⟩, ⟨⟨rfl, rfl⟩, ⟨⟨rfl, rfl⟩, ⟨⟨rfl, rfl⟩, ⟨⟨rfl, rfl⟩, ⟨⟨rfl, rfl⟩, trivial⟩⟩⟩⟩⟩⟩, ⟨⟨rfl, rfl⟩, ⟨⟨rfl, rfl⟩, trivial⟩⟩⟩, rfl⟩
            · replace h := ite_f h h38
              refine rwp_f (isF h38) ?_
              refine rwp_exit ?_
              refine hK32 _ _ _ ?_
              exact hK25 _ _ _ ⟨_, _, Settled.refl, _, _, ⟨h, rfl, rfl⟩, ⟨rfl, trivial, trivial⟩, rfl⟩
    · refine rwp_region fun K60 hK60 => ?_
      refine st0 1600 rfl (ok (mv (.d (eI y17.2.2)))) ?_
      refine st0 1664 rfl (ok (neqI _ (0 : Int))) ?_
      refine st0 1728 rfl (ok (mv (.d (eB (y17.2.2 != (0 : Int)))))) ?_
      rcases Bool.eq_false_or_eq_true ((y17.2.2 != (0 : Int))) with h61 | h61
      · replace h := ite_t h h61
        refine stG (isT h61) ?_
        refine st0 1792 rfl (ok (mv (.d (eI y17.2.2)))) ?_
        refine stG (isT h61) ?_
        refine st0 1856 rfl (ok (neqI _ (16 : Int))) ?_
        refine st0 1920 rfl (ok (pick_t h61 (.d (eB (y17.2.2 != (16 : Int)))) _)) ?_
        refine st0 1984 rfl (ok (mv (.d (eB (y17.2.2 != (16 : Int)))))) ?_
        rcases Bool.eq_false_or_eq_true ((y17.2.2 != (16 : Int))) with h62 | h62
        · replace h := ite_t h h62
          refine stGN 2048 rfl rfl h62 ?_
          refine stGN 2112 rfl rfl h62 ?_
          refine stGN 2176 rfl rfl h62 ?_
          refine stGN 2240 rfl rfl h62 ?_
          refine stGN 2304 rfl rfl h62 ?_
          refine stGN 2368 rfl rfl h62 ?_
          refine stGN 2432 rfl rfl h62 ?_
          refine st0 2496 rfl (ok (pick_t h62 (.d (eB true)) _)) ?_
          refine hK60 _ _ ?_
          simp only [thenK, blockK, keepE, updM, List.filter_cons, List.filter_nil, List.nil_append, List.cons_append, List.map_cons, List.map_nil, envE, Mem.get, Nat.reduceEqDiff, reduceIte, Option.isNone_none, Option.isNone_some, Bool.false_eq_true, List.length_cons, List.length_nil, Nat.reduceAdd, Nat.reduceMul]
          exact hK21 _ _ _ ⟨_, _, Settled.refl, _, _, ⟨_, h, rfl, rfl⟩, ⟨rfl, ⟨⟨rfl, rfl⟩, ⟨⟨rfl, rfl⟩, ⟨⟨rfl, rfl⟩, ⟨⟨rfl, rfl⟩, ⟨⟨rfl, rfl⟩, trivial⟩⟩⟩⟩⟩, ⟨⟨rfl, rfl⟩, ⟨⟨rfl, rfl⟩, trivial⟩⟩⟩, rfl⟩
        · replace h := ite_f h h62
          refine stG (isF h62) ?_
          refine st0 2048 rfl (ok (fa_k 1 rfl)) ?_
          refine stG (isF h62) ?_
          refine st0 2112 rfl (ok (ld_v (v := .d ((eL 1 eU8) y17.1.Bytes)) rfl rfl rfl)) ?_
          refine stG (isF h62) ?_
          refine st0 2176 rfl (ok (lenL _ _)) ?_
          refine stG (isF h62) ?_
          refine st0 2240 rfl (ok (fa_k 1 rfl)) ?_
          refine stG (isF h62) ?_
          refine st0 2304 rfl (ok (ld_v (v := .d ((eL 1 eU8) y13.Bytes)) rfl rfl rfl)) ?_
          refine stG (isF h62) ?_
          refine st0 2368 rfl (ok (lenL _ _)) ?_
          refine stG (isF h62) ?_
          refine st0 2432 rfl (ok (neqI _ _)) ?_
          refine st0 2496 rfl (ok (pick_f h62 _ (.d (eB ((y17.1.Bytes.length : Int) != (y13.Bytes.length : Int)))))) ?_
          refine hK60 _ _ ?_
          simp only [thenK, blockK, keepE, updM, List.filter_cons, List.filter_nil, List.nil_append, List.cons_append, List.map_cons, List.map_nil, envE, Mem.get, Nat.reduceEqDiff, reduceIte, Option.isNone_none, Option.isNone_some, Bool.false_eq_true, List.length_cons, List.length_nil, Nat.reduceAdd, Nat.reduceMul]
          exact hK21 _ _ _ ⟨_, _, Settled.refl, _, _, ⟨_, h, rfl, rfl⟩, ⟨rfl, ⟨⟨rfl, rfl⟩, ⟨⟨rfl, rfl⟩, ⟨⟨rfl, rfl⟩, ⟨⟨rfl, rfl⟩, ⟨⟨rfl, rfl⟩, trivial⟩⟩⟩⟩⟩, ⟨⟨rfl, rfl⟩, ⟨⟨rfl, rfl⟩, trivial⟩⟩⟩, rfl⟩
      · replace h := ite_f h h61
        refine stGN 1792 rfl rfl h61 ?_
        refine stGN 1856 rfl rfl h61 ?_
        refine st0 1920 rfl (ok (pick_f h61 _ (.d (eB false)))) ?_
        refine st0 1984 rfl (ok (mv (.d (eB false)))) ?_
        refine stG rfl ?_
        refine st0 2048 rfl (ok (fa_k 1 rfl)) ?_
        refine stG rfl ?_
        refine st0 2112 rfl (ok (ld_v (v := .d ((eL 1 eU8) y17.1.Bytes)) rfl rfl rfl)) ?_
        refine stG rfl ?_
        refine st0 2176 rfl (ok (lenL _ _)) ?_
        refine stG rfl ?_
        refine st0 2240 rfl (ok (fa_k 1 rfl)) ?_
        refine stG rfl ?_
        refine st0 2304 rfl (ok (ld_v (v := .d ((eL 1 eU8) y13.Bytes)) rfl rfl rfl)) ?_
        refine stG rfl ?_
        refine st0 2368 rfl (ok (lenL _ _)) ?_
        refine stG rfl ?_
        refine st0 2432 rfl (ok (neqI _ _)) ?_
        refine st0 2496 rfl (ok (pick_f rfl _ (.d (eB ((y17.1.Bytes.length : Int) != (y13.Bytes.length : Int)))))) ?_
        refine hK60 _ _ ?_
        simp only [thenK, blockK, keepE, updM, List.filter_cons, List.filter_nil, List.nil_append, List.cons_append, List.map_cons, List.map_nil, envE, Mem.get, Nat.reduceEqDiff, reduceIte, Option.isNone_none, Option.isNone_some, Bool.false_eq_true, List.length_cons, List.length_nil, Nat.reduceAdd, Nat.reduceMul]
        exact hK21 _ _ _ ⟨_, _, Settled.refl, _, _, ⟨_, h, rfl, rfl⟩, ⟨rfl, ⟨⟨rfl, rfl⟩, ⟨⟨rfl, rfl⟩, ⟨⟨rfl, rfl⟩, ⟨⟨rfl, rfl⟩, ⟨⟨rfl, rfl⟩, trivial⟩⟩⟩⟩⟩, ⟨⟨rfl, rfl⟩, ⟨⟨rfl, rfl⟩, trivial⟩⟩⟩, rfl⟩

/-- passkey/flash.Erase$1 -/
def flashErase1H : Hints := ⟨[(0, []), (1, [4])], []⟩
def flashErase1Rc : RCode :=
  .seq (.region false [⟨some 4, .mv, [.k (.d (.int .u8 0))], none, []⟩] []) (.seq (.region false [⟨some 4, .mv, [.k (.d (.int .u8 255))], none, []⟩] [4]) .ret)
def flashErase1Rr : List RR := [.t 4]
theorem flashErase1C : compFn Try.prog 32 flashErase1H = some (flashErase1Rc, flashErase1Rr, 5) := by kernel_rfl
theorem flashErase1OK (a0 : Int) (a1 : BitVec 8) (res : BitVec 8) (h : flashErase1 a0 a1 = some res) : CallOK Try.prog 32 [.d (eI a0), .d (eU8 a1)] [] (.d (eU8 res)) [] := by
  unfold flashErase1 at h
  refine callOK flashErase1C fm rfl ?_
  simp only [initE, initM, nbor, List.map_cons, List.map_nil, Nat.reduceAdd]
  unfold flashErase1Rc
  refine rwp_seq fun K1 hK1 => ?_
  refine rwp_region fun K2 hK2 => ?_
  refine st0 128 rfl (ok (mv (.d (eU8 0#8)))) ?_
  refine hK2 _ _ ?_
  simp only [thenK, blockK, keepE, updM, List.filter_cons, List.filter_nil, List.nil_append, List.cons_append, List.map_cons, List.map_nil, envE, Mem.get, Nat.reduceEqDiff, reduceIte, Option.isNone_none, Option.isNone_some, Bool.false_eq_true, List.length_cons, List.length_nil, Nat.reduceAdd, Nat.reduceMul]
  refine hK1 _ _ _ ?_
  refine rwp_seq fun K3 hK3 => ?_
  refine rwp_region fun K4 hK4 => ?_
  refine st0 192 rfl (ok (mv (.d (eU8 255#8)))) ?_
  refine hK4 _ _ ?_
  simp only [thenK, blockK, keepE, updM, List.filter_cons, List.filter_nil, List.nil_append, List.cons_append, List.map_cons, List.map_nil, envE, Mem.get, Nat.reduceEqDiff, reduceIte, Option.isNone_none, Option.isNone_some, Bool.false_eq_true, List.length_cons, List.length_nil, Nat.reduceAdd, Nat.reduceMul]
  refine hK3 _ _ _ ?_
  refine rwp_ret ?_
  obtain rfl := Option.some.inj h
  try simp only [thenK, blockK, reduceIte]
  exact end_ok trivial (rs_t (v := .d (eU8 255#8)) rfl rs_nil) (en_d (to_d _) en_nil) ou_nil (by first | exact eok rfl rfl rfl rfl trivial | (refine eok ?_ ?_ ?_ ?_ ?_ <;> first | rfl | exact trivial | simp [retM, Mem.get, PV.renL, PV.ren, Blk.ren, comps, rhoR, rhoM, appN, PV.refsL, PV.refs, keys, nodupB, Blk.refs, allIn, Blk.bor]))

theorem flashchangeFflashErase1OK (a0 : TApiFlash) (a1 : Int) (a2 : Int) (a3 : Int) (res : TApiFlash × Int × Int) (h : flashchangeFflashErase1 a0 a1 a2 a3 = some res) : CallOK Try.prog 27 [.d (eTApiFlash a0), .d (eI a1), .d (eI a2), .d (eI a3), .d (.fn 32 [])] [] (.tup [.d (eTApiFlash res.1), .d (eI res.2.1), .d (eI res.2.2)]) [] := by
  unfold flashchangeFflashErase1 at h
  refine callOK flashchangeC fm rfl ?_
  simp only [initE, initM, nbor, List.map_cons, List.map_nil, Nat.reduceAdd]
  unfold flashchangeRc
  refine rwp_seq fun K1 hK1 => ?_
  refine rwp_region fun K2 hK2 => ?_
  refine st1 128 rfl (mem' := [(64, .var .mine [.d (eI a0.PageSize), .d ((eL 1 eU8) a0.Bytes)])]) (ok (bx (ps := [.d (eI a0.PageSize), .d ((eL 1 eU8) a0.Bytes)]) rfl rfl)) rfl ?_
  refine st1 192 rfl (mem' := [(128, .var .mine [.d (eI (0 : Int)), .nil 1]), (64, .var .mine [.d (eI a0.PageSize), .d ((eL 1 eU8) a0.Bytes)])]) (ok (alc (zs := [.d (eI (0 : Int)), .nil 1]))) rfl ?_
  refine st0 256 rfl (ok (mv (.d (eI (0 : Int))))) ?_
  refine st0 320 rfl (ok (mv (.d (eI (0 : Int))))) ?_
  refine hK2 _ _ ?_
  simp only [thenK, blockK, keepE, updM, List.filter_cons, List.filter_nil, List.nil_append, List.cons_append, List.map_cons, List.map_nil, envE, Mem.get, Nat.reduceEqDiff, reduceIte, Option.isNone_none, Option.isNone_some, Bool.false_eq_true, List.length_cons, List.length_nil, Nat.reduceAdd, Nat.reduceMul]
  refine hK1 _ _ _ ?_
  refine rwp_seq fun K3 hK3 => ?_
  refine rwp_region fun K4 hK4 => ?_
  refine st0 384 rfl (ok (fa_k 1 rfl)) ?_
  refine st0 448 rfl (ok (ld_v (v := .d ((eL 1 eU8) a0.Bytes)) rfl rfl rfl)) ?_
  obtain ⟨y5, h6, h⟩ := bind_inv h
  refine st1 512 rfl (mem' := [(448, .row true 1 (y5.map eU8)), (128, .var .mine [.d (eI (0 : Int)), .nil 1]), (64, .var .mine [.d (eI a0.PageSize), .d ((eL 1 eU8) a0.Bytes)])]) (call_ok (v := .ref 448 y5.length 0 y5.length) (u := [(448, .row true 1 (y5.map eU8))]) (ar_d ((eL 1 eU8) a0.Bytes) ar_nil) rfl (slicesClonebytebyteOwnOK a0.Bytes y5 h6) rfl) rfl ?_
  refine st0 576 rfl (ok (fa_k 1 rfl)) ?_
  refine stn 640 rfl (mem' := [(64, .var .mine [.d (eI a0.PageSize), .ref 448 y5.length 0 y5.length]), (448, .row true 1 (y5.map eU8)), (128, .var .mine [.d (eI (0 : Int)), .nil 1])]) (ok (sto_v (ps' := [.d (eI a0.PageSize), .ref 448 y5.length 0 y5.length]) rfl rfl rfl rfl)) rfl ?_
  refine hK4 _ _ ?_
  simp only [thenK, blockK, keepE, updM, List.filter_cons, List.filter_nil, List.nil_append, List.cons_append, List.map_cons, List.map_nil, envE, Mem.get, Nat.reduceEqDiff, reduceIte, Option.isNone_none, Option.isNone_some, Bool.false_eq_true, List.length_cons, List.length_nil, Nat.reduceAdd, Nat.reduceMul]
  refine hK3 _ _ _ ?_
  refine rwp_seq fun K7 hK7 => ?_
  refine rwp_region fun K8 hK8 => ?_
  refine st0 704 rfl (ok (mv (.d (eI a2)))) ?_
  refine st0 768 rfl (ok (mv (.d (eI a2)))) ?_
  refine st0 832 rfl (ok (mv (.d (eI (0 : Int))))) ?_
  refine hK8 _ _ ?_
  simp only [thenK, blockK, keepE, updM, List.filter_cons, List.filter_nil, List.nil_append, List.cons_append, List.map_cons, List.map_nil, envE, Mem.get, Nat.reduceEqDiff, reduceIte, Option.isNone_none, Option.isNone_some, Bool.false_eq_true, List.length_cons, List.length_nil, Nat.reduceAdd, Nat.reduceMul]
  refine hK7 _ _ _ ?_
  refine rwp_join ([], []) 1536 (fun env mem => ∃ (v9 : Int) (v10 : Int), flashchangeFflashErase1J1 a0 a1 a2 y5 v9 v10 = some res ∧ env = [(1, .d (eI a1)), (2, .d (eI a2)), (3, .d (eI v9)), (4, .d (.fn 32 [])), (5, .ptr 64 0), (10, .ptr 128 0), (13, .d (eI v10)), (14, .d (eI (0 : Int)))] ∧ mem = [(64, .var .mine [.d (eI a0.PageSize), .ref 448 y5.length 0 y5.length]), (448, .row true 1 (y5.map eU8)), (128, .var .mine [.d (eI (0 : Int)), .nil 1])]) (fun _ _ hI => ?_) (fun K11 hK11 => ?_)
  · obtain ⟨v9, v10, h, rfl, rfl⟩ := hI
    unfold flashchangeFflashErase1J1 at h
    refine rwp_join ([], []) 1856 (fun env mem => ∃ (v12 : Int), flashchangeFflashErase1J2 a0 a1 y5 v9 v10 v12 = some res ∧ env = [(1, .d (eI a1)), (3, .d (eI v9)), (4, .d (.fn 32 [])), (5, .ptr 64 0), (10, .ptr 128 0), (13, .d (eI v10)), (14, .d (eI v12))] ∧ mem = [(64, .var .mine [.d (eI a0.PageSize), .ref 448 y5.length 0 y5.length]), (448, .row true 1 (y5.map eU8)), (128, .var .mine [.d (eI (0 : Int)), .nil 1])]) (fun _ _ hI => ?_) (fun K13 hK13 => ?_)
    · obtain ⟨v12, h, rfl, rfl⟩ := hI
      unfold flashchangeFflashErase1J2 at h
      refine rwp_join ([], []) 3648 (fun env mem => ∃ (v14 : List (BitVec 8)), flashchangeFflashErase1J3 a0 v9 v12 v14 = some res ∧ env = [(3, .d (eI v9)), (5, .ptr 64 0), (10, .ptr 128 0), (14, .d (eI v12))] ∧ mem = [(64, .var .mine [.d (eI a0.PageSize), .ref 448 v14.length 0 v14.length]), (448, .row true 1 (v14.map eU8)), (128, .var .mine [.d (eI (0 : Int)), .nil 1])]) (fun _ _ hI => ?_) (fun K15 hK15 => ?_)
      · obtain ⟨v14, h, rfl, rfl⟩ := hI
        unfold flashchangeFflashErase1J3 at h
        refine rwp_seq fun K16 hK16 => ?_
        refine rwp_region fun K17 hK17 => ?_
        refine st0 3712 rfl (ok (ld_v (v := .agg [.d (eI a0.PageSize), .ref 448 v14.length 0 v14.length]) rfl rfl rfl)) ?_
        refine st0 3776 rfl (ok (mv (.d (eI v9)))) ?_
        refine st0 3840 rfl (ok (mv (.d (eI v12)))) ?_
        refine stn 3904 rfl (mem' := [(128, .var .mine [.d (eI a0.PageSize), .ref 448 v14.length 0 v14.length]), (64, .var .mine [.d (eI a0.PageSize), .ref 448 v14.length 0 v14.length]), (448, .row true 1 (v14.map eU8))]) (ok (sto_v (ps' := [.d (eI a0.PageSize), .ref 448 v14.length 0 v14.length]) rfl rfl rfl rfl)) rfl ?_
        refine st0 3968 rfl (ok (mv (.d (eI v9)))) ?_
        refine st0 4032 rfl (ok (mv (.d (eI v12)))) ?_
        refine hK17 _ _ ?_
        simp only [thenK, blockK, keepE, updM, List.filter_cons, List.filter_nil, List.nil_append, List.cons_append, List.map_cons, List.map_nil, envE, Mem.get, Nat.reduceEqDiff, reduceIte, Option.isNone_none, Option.isNone_some, Bool.false_eq_true, List.length_cons, List.length_nil, Nat.reduceAdd, Nat.reduceMul]
        refine hK16 _ _ _ ?_
        refine rwp_ret ?_
        obtain rfl := Option.some.inj h
        try simp only [thenK, blockK, reduceIte]
        exact end_ok trivial (rs_c (id := 128) (off := 0) (v := .agg [.d (eI a0.PageSize), .ref 448 v14.length 0 v14.length]) rfl rfl rfl rfl (rs_t (v := .d (eI v9)) rfl (rs_t (v := .d (eI v12)) rfl rs_nil))) (en_d (to_agg (ds_d _ (ds_r (ys := v14) rfl rfl rfl ds_nil)) (x := eTApiFlash (TApiFlash.mk a0.PageSize v14)) rfl) (en_d (to_d _) (en_d (to_d _) en_nil))) ou_nil (by first | exact eok rfl rfl rfl rfl trivial | (refine eok ?_ ?_ ?_ ?_ ?_ <;> first | rfl | exact trivial | simp [retM, Mem.get, PV.renL, PV.ren, Blk.ren, comps, rhoR, rhoM, appN, PV.refsL, PV.refs, keys, nodupB, Blk.refs, allIn, Blk.bor]))
      · refine rwp_seq fun K18 hK18 => ?_
        refine rwp_region fun K19 hK19 => ?_
        refine st0 1920 rfl (ok (mv (.d (eI v10)))) ?_
        refine st0 1984 rfl (ok (mv (.d (eI (0 : Int))))) ?_
        refine hK19 _ _ ?_
        simp only [thenK, blockK, keepE, updM, List.filter_cons, List.filter_nil, List.nil_append, List.cons_append, List.map_cons, List.map_nil, envE, Mem.get, Nat.reduceEqDiff, reduceIte, Option.isNone_none, Option.isNone_some, Bool.false_eq_true, List.length_cons, List.length_nil, Nat.reduceAdd, Nat.reduceMul]
        refine hK18 _ _ _ ?_
        refine rwp_block fun K20 hK20 => ?_
        refine rwp_loop ([], []) 3520 (fun k env mem => ∃ (v21 : List (BitVec 8)) (v22 : Int), flashchangeFflashErase1L4 a0 a1 v9 v10 v12 k v21 v22 = some res ∧ env = [(1, .d (eI a1)), (3, .d (eI v9)), (4, .d (.fn 32 [])), (5, .ptr 64 0), (10, .ptr 128 0), (14, .d (eI v12)), (32, .d (eI v10)), (33, .d (eI v22))] ∧ mem = [(64, .var .mine [.d (eI a0.PageSize), .ref 448 v21.length 0 v21.length]), (448, .row true 1 (v21.map eU8)), (128, .var .mine [.d (eI (0 : Int)), .nil 1])]) FUEL ⟨_, _, Settled.refl, _, _, ⟨_, _, h, rfl, rfl⟩, ⟨rfl, ⟨⟨rfl, rfl⟩, ⟨⟨rfl, rfl⟩, ⟨⟨rfl, rfl⟩, ⟨⟨rfl, rfl⟩, ⟨⟨rfl, rfl⟩, ⟨⟨rfl, rfl⟩, ⟨⟨rfl, rfl⟩, ⟨⟨rfl, rfl⟩, trivial⟩⟩⟩⟩⟩⟩⟩⟩, ⟨⟨rfl, rfl⟩, ⟨⟨rfl, rfl⟩, ⟨⟨rfl, rfl⟩, trivial⟩⟩⟩⟩, rfl⟩ (fun k4 env1 mem1 hI K23 hK23 => ?_)
        obtain ⟨v21, v22, h, rfl, rfl⟩ := hI
        cases k4 with
        | zero => simp [flashchangeFflashErase1L4] at h
        | succ k4 =>
          rw [flashchangeFflashErase1L4] at h
          refine rwp_seq fun K24 hK24 => ?_
          refine rwp_region fun K25 hK25 => ?_
          refine st0 3584 rfl (ok (lssI _ _)) ?_
          refine hK25 _ _ ?_
          simp only [thenK, blockK, keepE, updM, List.filter_cons, List.filter_nil, List.nil_append, List.cons_append, List.map_cons, List.map_nil, envE, Mem.get, Nat.reduceEqDiff, reduceIte, Option.isNone_none, Option.isNone_some, Bool.false_eq_true, List.length_cons, List.length_nil, Nat.reduceAdd, Nat.reduceMul]
          refine hK24 _ _ _ ?_
          refine rwp_seq fun K26 hK26 => ?_
          rcases Bool.eq_false_or_eq_true ((decide (v22 < v10))) with h27 | h27
          · replace h := ite_t h h27
            refine rwp_t (isT h27) ?_
            refine rwp_skip ?_
            refine hK26 _ _ _ ?_
            refine rwp_seq fun K28 hK28 => ?_
            refine rwp_block fun K29 hK29 => ?_
            refine rwp_seq fun K30 hK30 => ?_
            refine rwp_region fun K31 hK31 => ?_
            refine st0 3648 rfl (ok (mv (.d (eI v22)))) ?_
            refine st0 3712 rfl (ok (mv (.d (eI v22)))) ?_
            refine hK31 _ _ ?_
            simp only [thenK, blockK, keepE, updM, List.filter_cons, List.filter_nil, List.nil_append, List.cons_append, List.map_cons, List.map_nil, envE, Mem.get, Nat.reduceEqDiff, reduceIte, Option.isNone_none, Option.isNone_some, Bool.false_eq_true, List.length_cons, List.length_nil, Nat.reduceAdd, Nat.reduceMul]
            refine hK30 _ _ _ ?_
            refine rwp_draw fun K32 hK32 => ?_
            refine dr0 3776 rfl (ok (fa_k 1 rfl)) (by kernel_rfl) ?_
            refine dr0 3840 rfl (ok (ld_v (v := .ref 448 v21.length 0 v21.length) rfl rfl rfl)) (by kernel_rfl) ?_
            refine dr0 3904 rfl (ok (mv (.d (eI a1)))) (by kernel_rfl) ?_
            refine dr0 3968 rfl (ok (mv (.d (eI v22)))) (by kernel_rfl) ?_
            refine dr0 4032 rfl (ok (addI _ _)) (by kernel_rfl) ?_
            refine dr0 4096 rfl (ok (mv (.d (.fn 32 [])))) (by kernel_rfl) ?_
            refine dr0 4160 rfl (ok (mv (.d (eI v22)))) (by kernel_rfl) ?_
            refine dr0 4224 rfl (ok (fa_k 1 rfl)) (by kernel_rfl) ?_
            refine dr0 4288 rfl (ok (ld_v (v := .ref 448 v21.length 0 v21.length) rfl rfl rfl)) (by kernel_rfl) ?_
            refine dr0 4352 rfl (ok (mv (.d (eI a1)))) (by kernel_rfl) ?_
            refine dr0 4416 rfl (ok (mv (.d (eI v22)))) (by kernel_rfl) ?_
            refine dr0 4480 rfl (ok (addI _ _)) (by kernel_rfl) ?_
            obtain ⟨h33, h⟩ := asq_inv h
            refine dr0 4544 rfl (ok (iaR (xs := v21) (e := eU8) rfl rfl h33)) (by kernel_rfl) ?_
            refine dr0 4608 rfl (ok (ld_r (e := eU8) (xs := v21) 0#8 rfl rfl (by have := h33; simp at this ⊢; omega) rfl)) (by kernel_rfl) ?_
            obtain ⟨y34, h35, h⟩ := bind_inv h
            refine dr0 4672 rfl (callv_fn (call_ok (v := .d (eU8 y34)) (u := []) (ar_d (eI v22) (ar_d (eU8 (v21.getD (0 + (w64 (a1 + v22)).toNat) 0#8)) ar_nil)) rfl (flashErase1OK v22 (v21.getD (0 + (w64 (a1 + v22)).toNat) 0#8) y34 h35) rfl)) (by kernel_rfl) ?_
            obtain ⟨h36, h⟩ := asq_inv h
            refine dr0 4736 rfl (ok (iaR (xs := v21) (e := eU8) rfl rfl h36)) (by kernel_rfl) ?_
            refine drn 4800 rfl (mem' := [(448, .row true 1 ((v21.set (0 + (w64 (a1 + v22)).toNat) y34).map eU8)), (64, .var .mine [.d (eI a0.PageSize), .ref 448 v21.length 0 v21.length]), (128, .var .mine [.d (eI (0 : Int)), .nil 1])]) (ok (sto_r (e := eU8) (xs := v21) (y := y34) rfl rfl rfl)) rfl (by kernel_rfl) ?_
            refine hK32 _ _ ?_
            simp only [thenK, blockK, keepE, updM, List.filter_cons, List.filter_nil, List.nil_append, List.cons_append, List.map_cons, List.map_nil, envE, Mem.get, Nat.reduceEqDiff, reduceIte, Option.isNone_none, Option.isNone_some, Bool.false_eq_true, List.length_cons, List.length_nil, Nat.reduceAdd, Nat.reduceMul]
            refine hK29 _ _ _ ?_
            refine hK28 _ _ _ ?_
            refine rwp_region fun K37 hK37 => ?_
            refine st0 4864 rfl (ok (addI _ (1 : Int))) ?_
            refine st0 4928 rfl (ok (mv (.d (eI (w64 (v22 + (1 : Int))))))) ?_
            refine hK37 _ _ ?_
            simp only [thenK, blockK, keepE, updM, List.filter_cons, List.filter_nil, List.nil_append, List.cons_append, List.map_cons, List.map_nil, envE, Mem.get, Nat.reduceEqDiff, reduceIte, Option.isNone_none, Option.isNone_some, Bool.false_eq_true, List.length_cons, List.length_nil, Nat.reduceAdd, Nat.reduceMul]
            exact hK23.out _ _ _ k4 (Nat.lt_succ_self k4) ⟨_, _, Settled.refl, _, _, ⟨_, _, h, rfl, rfl⟩, (by refine ⟨rfl, ⟨⟨?_, rfl⟩, ⟨⟨?_, rfl⟩, ⟨⟨?_, rfl⟩, ⟨⟨?_, rfl⟩, ⟨⟨?_, rfl⟩, ⟨⟨?_, rfl⟩, ⟨⟨?_, rfl⟩, ⟨⟨?_, rfl⟩, trivial⟩⟩⟩⟩⟩⟩⟩⟩, ⟨⟨?_, rfl⟩, ⟨⟨?_, rfl⟩, ⟨⟨?_, rfl⟩, trivial⟩⟩⟩⟩ <;> first | rfl | (exact refEq rfl (by simp) rfl (by simp)) | simp [envE, Mem.get, liftE, liftV, rhoOf, rhoE, rhoM, appN, PV.refs, PV.refsL, Blk.refs, PV.ren, PV.renL, Blk.ren]), rfl⟩
          · replace h := ite_f h h27
            refine rwp_f (isF h27) ?_
            refine rwp_exit ?_
            refine hK20 _ _ _ ?_
            exact hK15 _ _ _ ⟨_, _, Settled.refl, _, _, ⟨_, h, rfl, rfl⟩, ⟨rfl, ⟨⟨rfl, rfl⟩, ⟨⟨rfl, rfl⟩, ⟨⟨rfl, rfl⟩, ⟨⟨rfl, rfl⟩, trivial⟩⟩⟩⟩, ⟨⟨rfl, rfl⟩, ⟨⟨rfl, rfl⟩, ⟨⟨rfl, rfl⟩, trivial⟩⟩⟩⟩, rfl⟩
    · refine rwp_seq fun K38 hK38 => ?_
      refine rwp_region fun K39 hK39 => ?_
      refine st0 1600 rfl (ok (mv (.d (eI v10)))) ?_
      refine st0 1664 rfl (ok (mv (.d (eI a2)))) ?_
      refine st0 1728 rfl (ok (lssI _ _)) ?_
      refine hK39 _ _ ?_
      simp only [thenK, blockK, keepE, updM, List.filter_cons, List.filter_nil, List.nil_append, List.cons_append, List.map_cons, List.map_nil, envE, Mem.get, Nat.reduceEqDiff, reduceIte, Option.isNone_none, Option.isNone_some, Bool.false_eq_true, List.length_cons, List.length_nil, Nat.reduceAdd, Nat.reduceMul]
      refine hK38 _ _ _ ?_
      rcases Bool.eq_false_or_eq_true ((decide (v10 < a2))) with h40 | h40
      · replace h := ite_t h h40
        refine rwp_t (isT h40) ?_
        refine rwp_region fun K41 hK41 => ?_
        refine st0 1792 rfl (ok (mv (.d (eI (16 : Int))))) ?_
        refine hK41 _ _ ?_
        simp only [thenK, blockK, keepE, updM, List.filter_cons, List.filter_nil, List.nil_append, List.cons_append, List.map_cons, List.map_nil, envE, Mem.get, Nat.reduceEqDiff, reduceIte, Option.isNone_none, Option.isNone_some, Bool.false_eq_true, List.length_cons, List.length_nil, Nat.reduceAdd, Nat.reduceMul]
        exact hK13 _ _ _ ⟨_, _, Settled.refl, _, _, ⟨_, h, rfl, rfl⟩, ⟨rfl, ⟨⟨rfl, rfl⟩, ⟨⟨rfl, rfl⟩, ⟨⟨rfl, rfl⟩, ⟨⟨rfl, rfl⟩, ⟨⟨rfl, rfl⟩, ⟨⟨rfl, rfl⟩, ⟨⟨rfl, rfl⟩, trivial⟩⟩⟩⟩⟩⟩⟩, ⟨⟨rfl, rfl⟩, ⟨⟨rfl, rfl⟩, ⟨⟨rfl, rfl⟩, trivial⟩⟩⟩⟩, rfl⟩
      · replace h := ite_f h h40
        refine rwp_f (isF h40) ?_
        refine rwp_skip ?_
        exact hK13 _ _ _ ⟨_, _, Settled.refl, _, _, ⟨_, h, rfl, rfl⟩, ⟨rfl, ⟨⟨rfl, rfl⟩, ⟨⟨rfl, rfl⟩, ⟨⟨rfl, rfl⟩, ⟨⟨rfl, rfl⟩, ⟨⟨rfl, rfl⟩, ⟨⟨rfl, rfl⟩, ⟨⟨rfl, rfl⟩, trivial⟩⟩⟩⟩⟩⟩⟩, ⟨⟨rfl, rfl⟩, ⟨⟨rfl, rfl⟩, ⟨⟨rfl, rfl⟩, trivial⟩⟩⟩⟩, rfl⟩
  · refine rwp_seq fun K42 hK42 => ?_
    refine rwp_region fun K43 hK43 => ?_
    refine st0 896 rfl (ok (mv (.d (eI a3)))) ?_
    refine st0 960 rfl (ok (geqI _ (0 : Int))) ?_
    refine hK43 _ _ ?_
    simp only [thenK, blockK, keepE, updM, List.filter_cons, List.filter_nil, List.nil_append, List.cons_append, List.map_cons, List.map_nil, envE, Mem.get, Nat.reduceEqDiff, reduceIte, Option.isNone_none, Option.isNone_some, Bool.false_eq_true, List.length_cons, List.length_nil, Nat.reduceAdd, Nat.reduceMul]
    refine hK42 _ _ _ ?_
    rcases Bool.eq_false_or_eq_true ((decide ((0 : Int) ≤ a3))) with h44 | h44
    · replace h := ite_t h h44
      refine rwp_t (isT h44) ?_
      refine rwp_seq fun K45 hK45 => ?_
      refine rwp_region fun K46 hK46 => ?_
      refine st0 1024 rfl (ok (mv (.d (eI a2)))) ?_
      refine st0 1088 rfl (ok (mv (.d (eI a3)))) ?_
      refine st0 1152 rfl (ok (minI _ _)) ?_
      refine st0 1216 rfl (ok (mv (.d (eI (if a3 < a2 then a3 else a2))))) ?_
      refine hK46 _ _ ?_
      simp only [thenK, blockK, keepE, updM, List.filter_cons, List.filter_nil, List.nil_append, List.cons_append, List.map_cons, List.map_nil, envE, Mem.get, Nat.reduceEqDiff, reduceIte, Option.isNone_none, Option.isNone_some, Bool.false_eq_true, List.length_cons, List.length_nil, Nat.reduceAdd, Nat.reduceMul]
      refine hK45 _ _ _ ?_
      refine rwp_region fun K47 hK47 => ?_
      refine st0 1280 rfl (ok (mv (.d (eI a3)))) ?_
      refine st0 1344 rfl (ok (mv (.d (eI (if a3 < a2 then a3 else a2))))) ?_
      refine st0 1408 rfl (ok (subI _ _)) ?_
      refine st0 1472 rfl (ok (mv (.d (eI (w64 (a3 - (if a3 < a2 then a3 else a2))))))) ?_
      refine hK47 _ _ ?_
      simp only [thenK, blockK, keepE, updM, List.filter_cons, List.filter_nil, List.nil_append, List.cons_append, List.map_cons, List.map_nil, envE, Mem.get, Nat.reduceEqDiff, reduceIte, Option.isNone_none, Option.isNone_some, Bool.false_eq_true, List.length_cons, List.length_nil, Nat.reduceAdd, Nat.reduceMul]
      exact hK11 _ _ _ ⟨_, _, Settled.refl, _, _, ⟨_, _, h, rfl, rfl⟩, ⟨rfl, ⟨⟨rfl, rfl⟩, ⟨⟨rfl, rfl⟩, ⟨⟨rfl, rfl⟩, ⟨⟨rfl, rfl⟩, ⟨⟨rfl, rfl⟩, ⟨⟨rfl, rfl⟩, ⟨⟨rfl, rfl⟩, ⟨⟨rfl, rfl⟩, trivial⟩⟩⟩⟩⟩⟩⟩⟩, ⟨⟨rfl, rfl⟩, ⟨⟨rfl, rfl⟩, ⟨⟨rfl, rfl⟩, trivial⟩⟩⟩⟩, rfl⟩
    · replace h := ite_f h h44
      refine rwp_f (isF h44) ?_
      refine rwp_skip ?_
      exact hK11 _ _ _ ⟨_, _, Settled.refl, _, _, ⟨_, _, h, rfl, rfl⟩, ⟨rfl, ⟨⟨rfl, rfl⟩, ⟨⟨rfl, rfl⟩, ⟨⟨rfl, rfl⟩, ⟨⟨rfl, rfl⟩, ⟨⟨rfl, rfl⟩, ⟨⟨rfl, rfl⟩, ⟨⟨rfl, rfl⟩, ⟨⟨rfl, rfl⟩, trivial⟩⟩⟩⟩⟩⟩⟩⟩, ⟨⟨rfl, rfl⟩, ⟨⟨rfl, rfl⟩, ⟨⟨rfl, rfl⟩, trivial⟩⟩⟩⟩, rfl⟩

end Go.Proofs.Ty
